import Derived.Test.YthpmdmkmfoaamaaGreatDoorC14
import Derived.Test.YthpmdmkmfoaamaaGreatDoorC16
import Derived.Test.YthpmdmkmfoaamaaGreatDoorC8
import Derived.Test.YthpmdmkmfoaamaaGreatDoorC13
import Derived.Test.YthpmdmkmfoaamaaGreatDoorC15
import Derived.Test.YthpmdmkmfoaamaaGreatDoorC7
set_option linter.unusedVariables false
open Go.IntKind (i64 u64 u32)
namespace Go.Proofs.Tryz
open Go.bK Go.fI
set_option maxHeartbeats 1000000 in
theorem tQ {V:View}{lb n c:Nat}{vs:List Value}{l:List (Rat×Rat)}(hw:V.w.heap[lb]?=some (.cells vs.toArray 108 (0,0)))(hx:V.X lb)(h:jc V n vs l)(hc:n<=c) :
  ab prog 152 #[.slice (some ⟨lb,0,none⟩) n c,.func (.func 153) #[] #[]] V fun r V'=>∃vs',r=.slice (some ⟨lb,0,none⟩) (fj eP l).length c/\V'.w.heap[lb]?=some (.cells vs'.toArray 108 (0,0))/\Row 6 kG V' vs' (fj eP l)/\vs'.length=vs.length:=by
 have ng:=h.ng
 have len:=h.len
 have hvl:=h.row.fl (by decide)
 refine kD lb n c vs V _ hw hx ⟨fun h2 V1 l1 hw1=>?_,fun h2=>⟨fun z V'=>∃k:Nat,z=((k+1:Nat):Int)/\k+1<=n/\fj eP (l.take (k+1))=l.take (k+1),fun z=>n-z.toNat,⟨1,by and_intros<;>rfl,0,rfl,by have:=of_decide_eq_false h2;omega,AP (by rw [List.length_take];omega)⟩,?_⟩⟩
 ·have h2:(n:Int)<2:=of_decide_eq_true h2
  have e:=AP (e:=eP) (l:=l) (by omega)
  rw [e,←len]
  exact ⟨vs,rfl,hw1,h.row.le fun _ _ g=>kG.le g l1,rfl⟩
 have h2:¬(n:Int)<2:=of_decide_eq_false h2
 rintro z V2 l2 ⟨k,rfl,hk,hcm⟩
 have hs2:=h.le l2
 refine ⟨rfl,fun hlt=>?_,fun hlt V9 l9 Rs=>?_⟩
 rotate_left
 ·have hlt:¬((k+1:Nat):Int)<n:=of_decide_eq_false hlt
  have e:l.take (k+1)=l:=List.take_of_length_le (by omega)
  rw [e] at hcm
  rw [hcm,←len]
  exact ⟨vs,rfl,Rs,h.row.le fun _ _ g=>kG.le g (l2.trans l9),rfl⟩
 have hlt:((k+1:Nat):Int)<n:=of_decide_eq_true hlt
 have w1:i64.wrap (((k+1:Nat):Int)-1)=(k:Int):=by rw [ar (by omega)];omega
 have w2:i64.wrap (((k+1:Nat):Int)+1)=((k+1+1:Nat):Int):=by rw [ar (by omega)];rfl
 rw [w1,w2,Int.toNat_natCast,Int.toNat_natCast]
 obtain ⟨x1,y1,p1,fG,fH,fF,g1,r1⟩:=hs2.get (k:=k+1) (by omega)
 obtain ⟨x2,y2,p2,gJ,gK,gG,g2,r2⟩:=hs2.get (k:=k) (by omega)
 refine ⟨⟨by omega,hlt⟩,x1,y1,p1,fG,fH,fF,g1,⟨by omega,by omega⟩,x2,y2,p2,gJ,gK,gG,g2,fun V3 l3=>(FI (r1.le l3) (r2.le l3)).mono ?_⟩
 rintro r V4 l4 rfl
 have step:=m_ (e:=eP) (d:=bo) (l:=l) (k:=k) (by omega)
 refine ⟨_,rfl,fun he=>⟨⟨by omega,by omega⟩,?_⟩,fun he=>⟨((k+1+1:Nat):Int),by dsimp only;omega,by and_intros<;>rfl,k+1,rfl,by omega,?_⟩⟩
 rotate_left
 ·have he':eP (l.getD (k+1) bo) (l.getD k bo)=false:=he
  rw [step,hcm,he']
  show l.take (k+1)++[_]=_
  have hi:k+1<l.length:=by omega
  rw [show l.getD (k+1) bo=l[k+1] by rw [List.getD_eq_getElem?_getD,List.getElem?_eq_getElem hi];rfl,List.take_append_getElem hi]
 have he':eP (l.getD (k+1) bo) (l.getD k bo)=true:=he
 have rL:=l3.trans l4
 have so:∀{m:Nat},m<c->zK 0 c m 6=m*6:=fun hm=>by unfold zK;rw [if_neg (by omega),Nat.zero_add]
 refine ⟨fun z V'=>∃(q t:Nat)(m:List (Rat×Rat)),z.1=(q:Int)/\z.2.1=((t+1:Nat):Int)/\q<=k+1+t/\k+1+t+1<=n/\jc V' n z.2.2 m/\z.2.2.length=vs.length/\(∀i,k+1+t<=i->m.getD i bo=l.getD i bo)/\m.take q=fj eP (l.take (k+1+t+1)),fun z=>n-z.2.1.toNat,
  ⟨(((k+1:Nat):Int),1,vs),by and_intros<;>rfl,k+1,0,l,rfl,rfl,by omega,by omega,h.le (l2.trans rL),rfl,fun i _=>rfl,?_⟩,?_⟩
 ·rw [Nat.add_zero,step,he',if_pos rfl,List.append_nil,hcm]
 rintro ⟨zq,zt,us⟩ V5 l5 ⟨q,t,m,e1,e2,hq,ht,hs,Ix,hm,LR⟩
 dsimp only at e1 e2 hs Ix
 subst e1 e2
 dsimp only
 have ml:=hs.len
 have YL:=hs.row.fl (by decide)
 refine ⟨rfl,fun hlt2=>?_,fun hlt2=>?_⟩
 ·have hlt2:((t+1:Nat):Int)<((n-(k+1):Nat):Int):=of_decide_eq_true hlt2
  have w3:i64.wrap (((t+1:Nat):Int)-1)=(t:Int):=by rw [ar (by omega)];omega
  have w4:i64.wrap (((t+1:Nat):Int)+1)=((t+1+1:Nat):Int):=by rw [ar (by omega)];rfl
  have w5:i64.wrap ((q:Int)+1)=((q+1:Nat):Int):=by rw [ar (by omega)];rfl
  rw [w3,w4,w5,Int.toNat_natCast,Int.toNat_natCast,Int.toNat_natCast,so (by omega)]
  obtain ⟨x1,y1,p1,fG,fH,fF,g1,r1⟩:=hs.get (k:=k+1+(t+1)) (by omega)
  obtain ⟨x2,y2,p2,gJ,gK,gG,g2,r2⟩:=hs.get (k:=k+1+t) (by omega)
  have a1:(k+1)*6+(t+1)*6=0+(k+1+(t+1))*6:=by omega
  have a2:(k+1)*6+t*6=0+(k+1+t)*6:=by omega
  rw [a1,a2]
  rw [hm _ (by omega)] at r1
  rw [hm _ (by omega)] at r2
  refine ⟨⟨by omega,hlt2⟩,x1,y1,p1,fG,fH,fF,g1,⟨by omega,by omega⟩,x2,y2,p2,gJ,gK,gG,g2,fun V6 l6=>(FI (r1.le l6) (r2.le l6)).mono ?_⟩
  rintro r V7 l7 rfl
  have RH:=l6.trans l7
  have step2:=m_ (e:=eP) (d:=bo) (l:=l) (k:=k+1+t) (by omega)
  refine ⟨_,rfl,fun hn=>⟨⟨by omega,hlt2⟩,x1,y1,p1,fG,fH,fF,g1,⟨by omega,by omega⟩,by omega,(((q+1:Nat):Int),((t+1+1:Nat):Int),_),by dsimp only;omega,by and_intros<;>rfl,q+1,t+1,m.set q (l.getD (k+1+(t+1)) bo),rfl,rfl,by omega,by omega,?_,?_,fun i hi=>?_,?_⟩,fun hn=>⟨(((q:Nat):Int),((t+1+1:Nat):Int),us),by dsimp only;omega,by and_intros<;>rfl,q,t+1,m,rfl,rfl,by omega,by omega,hs.le RH,Ix,fun i hi=>hm i (by omega),?_⟩⟩
  ·refine ⟨?_,by rw [List.length_set];exact ml,by rw [List.length_set];exact hs.ng⟩
   have:=(hs.le RH).row.put (i:=q) (by omega) (by decide) (xs:=[.int .i64 x1,.int .i64 y1,.pointer p1,.int .i64 fG,.int .i64 fH,.pointer fF]) rfl (r1.le RH)
   dsimp only
   rw [Nat.zero_add]
   exact this
  ·exact (jD (vs:=us) (xs:=[.int .i64 x1,.int .i64 y1,.pointer p1,.int .i64 fG,.int .i64 fH,.pointer fF]) (o:=0+q*6) (by show 0+q*6+6<=_;omega)).trans Ix
  ·rw [List.getD_eq_getElem?_getD,List.getElem?_set_ne (by omega),←List.getD_eq_getElem?_getD]
   exact hm i (by omega)
  ·have hn1:eP (l.getD (k+1+(t+1)) bo) (l.getD (k+1+t) bo)=false:=by simpa using hn
   have hn':eP (l.getD (k+1+t+1) bo) (l.getD (k+1+t) bo)=false:=hn1
   have hi:q<m.length:=by omega
   rw [show k+1+(t+1)+1=k+1+t+2 from rfl,step2,hn',←LR,if_neg (by decide)]
   rw [List.take_set,List.take_add_one,List.getElem?_eq_getElem hi,show (some m[q]).toList=[m[q]] from rfl]
   rw [List.set_append_right _ _ (by rw [List.length_take];omega),List.length_take,Nat.min_eq_left (by omega),Nat.sub_self]
   rfl
  ·have hn1:eP (l.getD (k+1+(t+1)) bo) (l.getD (k+1+t) bo)=true:=by simpa using hn
   have hn':eP (l.getD (k+1+t+1) bo) (l.getD (k+1+t) bo)=true:=hn1
   rw [show k+1+(t+1)+1=k+1+t+2 from rfl,step2,hn',if_pos rfl,List.append_nil,LR]
 ·have hlt2:¬((t+1:Nat):Int)<((n-(k+1):Nat):Int):=of_decide_eq_false hlt2
  have hl:l.take (k+1+t+1)=l:=List.take_of_length_le (by omega)
  rw [hl] at LR
  have YF:q<n:=by
   have:=Ib (e:=eP) (d:=bo) (l:=l) (k:=k) (by omega) he'
   rw [←LR,List.length_take] at this
   omega
  rw [Int.toNat_natCast,so (by omega)]
  have hz:q*6+(n-q)*6=n*6:=by rw [←Nat.add_mul];congr 1;omega
  rw [hz]
  refine ⟨⟨by omega,by omega⟩,by omega,⟨by omega,by omega⟩,fun V8 l8 hw8=>⟨_,?_,hw8,?_,?_⟩⟩
  ·rw [←LR,List.length_take,Nat.min_eq_left (by omega)]
  ·rw [←LR,List.append_assoc]
   exact (hs.row.le fun _ _ g=>kG.le g l8).H8 (by omega) (by decide)
  ·simp only [List.length_append,List.length_take,List.length_drop,nC,List.length_flatten,List.map_replicate,List.sum_replicate_nat,List.length_cons,List.length_nil]
   omega
theorem oa {V:View}:ab prog 152 #[.slice none 0 0,.func (.func 153) #[] #[]] V fun r V'=>r=.slice none 0 0:=
 ik V _ ⟨fun _ V1 l1=>rfl,fun h=>absurd (of_decide_eq_false h) (by decide)⟩
def tB (n c:Nat)(l:List (Rat×Rat)):Prop:=∀(V:View)(lb:Nat)(vs:List Value),V.w.heap[lb]?=some (.cells vs.toArray 108 (0,0))->V.X lb->jc V n vs l ->
 ab prog 150 #[.slice (some ⟨lb,0,none⟩) n c,.func (.func 151) #[] #[]] V fun r V'=>r=.tuple #[]/\∃vs' l',V'.w.heap[lb]?=some (.cells vs'.toArray 108 (0,0))/\jc V' n vs' l'/\l'.Perm l/\l'.Pairwise fun x y=>¬dk y x<0
theorem Lm (n c:Nat)(l:List (Rat×Rat)):tB n c l:=fun _ _ _ hw hx h=>Az hw hx h
theorem Ln (n c:Nat)(l:List (Rat×Rat))(h12:l.length<=12):tB n c l:=by
 intro V lb vs hw hx h
 have ng:=h.ng
 have len:=h.len
 have w:u64.wrap (n:Int)=n:=aL (by omega)
 refine gI lb n c vs V _ hw hx ?_
 rw [w]
 refine fun V1 l1=>(kJ n (by omega)).mono ?_
 rintro r V2 l2 rfl
 have pdq:∀{W:View} {bk:Nat},W.w.heap[bk]?=some (.cells vs.toArray 108 (0,0))->W.X bk->jc W n vs l->ab prog 187 #[.slice (some ⟨bk,0,none⟩) n c,.int .i64 0,.int .i64 (n:Int),.int .i64 (bh n:Int),.func (.func 151) #[] #[]] W fun r V'=>r=.tuple #[]/\kH bk n l 0 n V' fun l'=>oZ dk bo l' 0 n:=by
  intro W bk hw hx h
  refine dI bk n c vs 0 n (bh n:Int) W _ hw hx ⟨fun z V'=>z.1=0/\z.2.1=(n:Int)/\jc V' n z.2.2.2.2.2 l,fun _=>0,⟨(0,(n:Int),(bh n:Int),true,true,vs),by and_intros<;>rfl,rfl,rfl,h⟩,?_⟩
  rintro ⟨z1,z2,DW,wb,wp,us⟩ V1 l1 ⟨e1,e2,hs⟩
  dsimp only at e1 e2 hs
  subst e1 e2
  dsimp only
  have w0:i64.wrap ((n:Int)-0)=(n:Int):=by rw [ar (by omega)];omega
  rw [w0]
  refine ⟨rfl,fun _ V2 l2 bk e2 h2=>(kg (V:=V2.au [bk]) e2 ⟨by simp,h2⟩ (hs.le l2) (a:=0) (b:=n) (by omega) (by omega)).mono ?_,fun h12=>by have:=of_decide_eq_false h12;omega⟩
  rintro r V3 l3 ⟨rfl,ws,m',e3,hs3,SK,P0⟩
  exact ⟨rfl,ws,e3,fun V4 l4 hw4=>⟨rfl,ws,m',hw4,hs3.le fun b o h=>l4 b o h,SK,P0⟩⟩
 refine ⟨_,rfl,fun V3 l3 bk e3 h3=>(pdq (W:=V3.au [bk]) e3 ⟨by simp,h3⟩ (h.le fun b o h=>l3 b o (l2 b o (l1 b o h)))).mono ?_⟩
 rintro r V4 l4 ⟨rfl,vs',l',e4,hs4,sg,Ak⟩
 refine ⟨rfl,vs',e4,fun V5 l5 Rr=>⟨rfl,vs',l',Rr,hs4.le fun b o h=>l5 b o h,sg.perm,?_⟩⟩
 have sl:=sg.len
 refine List.pairwise_iff_getElem.2 fun i j hi hj wC=>?_
 have:=Ak i j (by omega) wC (by omega)
 rw [List.getD_eq_getElem?_getD,List.getD_eq_getElem?_getD,List.getElem?_eq_getElem hi,List.getElem?_eq_getElem hj] at this
 simp only [Option.getD_some] at this
 exact this
theorem row_one {α:Type}{sz:Nat}{R:View->Value->α->Prop}{V:View}{xs:List Value}{a:α}(hx:xs.length=sz)(ha:R V (.agg xs.toArray) a):Row sz R V xs [a]:=by
 refine ⟨fun i hi=>?_⟩
 obtain rfl:i=0:=by simpa using hi
 exact ⟨xs,hx,ha,fun j x hj=>by rw [Nat.zero_mul,Nat.zero_add];exact hj⟩
theorem Df {α:Type}{sz:Nat}{R:View->Value->α->Prop}{V:View}{vs:List Value}{ls:List α}(h:Row sz R V vs ls){k:Nat}(hk:k<=ls.length){xs sp:List Value}{a:α}(hx:xs.length=sz)(ha:R V (.agg xs.toArray) a)(hs:0<sz) :
  Row sz R V (vs.take (k*sz)++(xs++(vs.take (ls.length*sz)).drop (k*sz))++sp) (ls.take k++a::ls.drop k):=by
 have hl:=h.fl hs
 have hks:k*sz<=ls.length*sz:=Nat.mul_le_mul_right _ hk
 have t1:(vs.take (k*sz)).length=k*sz:=by rw [List.length_take];omega
 have t2:((vs.take (ls.length*sz)).drop (k*sz)).length=ls.length*sz-k*sz:=by rw [List.length_drop,List.length_take];omega
 have a1:(ls.take k).length=k:=by rw [List.length_take];omega
 refine ⟨fun i hi=>?_⟩
 rw [List.append_assoc]
 by_cases c1:i<k
 ·have hi':i<ls.length:=by omega
  obtain ⟨ys,y1,y2,y3⟩:=h.at_ i hi'
  have e:(ls.take k++a::ls.drop k)[i]=ls[i]:=by rw [List.getElem_append_left (by omega),List.getElem_take]
  refine ⟨ys,y1,by rw [e];exact y2,fun j x hj=>?_⟩
  have hj':=(List.getElem?_eq_some_iff.1 hj).1
  have hlt:i*sz+j<k*sz:=by
   have:(i+1)*sz<=k*sz:=Nat.mul_le_mul_right _ c1
   rw [Nat.succ_mul] at this
   omega
  rw [List.getElem?_append_left (by omega),List.getElem?_take,if_pos hlt]
  exact y3 j x hj
 ·by_cases c2:i=k
  ·subst c2
   have e:(ls.take i++a::ls.drop i)[i]=a:=by
    rw [List.getElem_append_right (by omega)]
    simp [a1]
   refine ⟨xs,hx,by rw [e];exact ha,fun j x hj=>?_⟩
   have hj':=(List.getElem?_eq_some_iff.1 hj).1
   rw [List.getElem?_append_right (by omega),t1,Nat.add_sub_cancel_left,List.append_assoc,List.getElem?_append_left hj']
   exact hj
  ·have hi':i-1<ls.length:=by
    rw [List.length_append,a1,List.length_cons,List.length_drop] at hi
    omega
   obtain ⟨ys,y1,y2,y3⟩:=h.at_ (i-1) hi'
   have e:(ls.take k++a::ls.drop k)[i]=ls[i-1]:=by
    rw [List.getElem_append_right (by omega)]
    obtain ⟨m,hm⟩:∃m,i=k+(m+1):=⟨i-k-1,by omega⟩
    subst hm
    simp only [a1,Nat.add_sub_cancel_left,List.getElem_cons_succ,List.getElem_drop]
    congr 1
   refine ⟨ys,y1,by rw [e];exact y2,fun j x hj=>?_⟩
   have hj':=(List.getElem?_eq_some_iff.1 hj).1
   obtain ⟨m,hm⟩:∃m,i=k+1+m:=⟨i-k-1,by omega⟩
   subst hm
   have e1:(k+1+m)*sz=k*sz+sz+m*sz:=by rw [Nat.add_mul,Nat.add_mul,Nat.one_mul]
   have e2:(k+1+m-1)*sz=k*sz+m*sz:=by rw [show k+1+m-1=k+m by omega,Nat.add_mul]
   have:=y3 j x hj
   rw [e2] at this
   have hlt:k*sz+m*sz+j<ls.length*sz:=by
    have:(k+m+1)*sz<=ls.length*sz:=Nat.mul_le_mul_right _ (by omega)
    rw [Nat.add_mul,Nat.add_mul,Nat.one_mul] at this
    omega
   rw [List.getElem?_append_right (by omega),t1,List.append_assoc,List.getElem?_append_right (by omega),hx,List.getElem?_append_left (by omega),List.getElem?_drop,List.getElem?_take,if_pos (by omega)]
   rw [show k*sz+((k+1+m)*sz+j-k*sz-sz)=k*sz+m*sz+j by omega]
   exact this
theorem ya {α:Type}{sz:Nat}{R:View->Value->α->Prop}{V:View}{p:OA}{n:Nat}{ls:List α}(h:nX sz R V p n ls)(hs:0<sz):∃xs:List Value,V.sl p xs/\xs.length=ls.length*sz/\Row sz R V xs ls:=by
 have step:∀k,k<=ls.length->∃xs:List Value,V.sl p xs/\xs.length=k*sz/\Row sz R V xs (ls.take k):=by
  intro k
  induction k with
  | zero=>exact fun _=>⟨[],fun i v hv=>by simp at hv,by simp,by rw [List.take_zero];exact Row.nil⟩
  | succ k ih=>
   intro hk
   obtain ⟨xs,x1,x2,x3⟩:=ih (by omega)
   obtain ⟨ad,ha,ys,y1,y2,y3⟩:=h.at_ k (by omega)
   have hl:(ls.take k).length=k:=by rw [List.length_take];omega
   refine ⟨xs++ys,fun i v hv=>?_,by rw [List.length_append,x2,y1,Nat.succ_mul],?_⟩
   ·by_cases c:i<xs.length
    ·rw [List.getElem?_append_left c] at hv;exact x1 i v hv
    ·rw [List.getElem?_append_right (by omega)] at hv
     cases p with
     | none=>cases ha
     | some a=>
      obtain rfl:=Option.some.inj (show some (a.add (k*sz))=some ad from ha)
      have:=y3 _ v hv
      rw [tG,x2] at this
      rw [show k*sz+(i-k*sz)=i by omega] at this
      exact ⟨a,rfl,this⟩
   ·have:=x3.snoc (sp:=[]) y1 y2 hs
    rw [hl,List.append_nil,List.take_of_length_le (by omega)] at this
    rw [List.take_add_one,List.getElem?_eq_getElem (by omega)]
    exact this
 obtain ⟨xs,x1,x2,x3⟩:=step ls.length (Nat.le_refl _)
 rw [List.take_length] at x3
 exact ⟨xs,x1,x2,x3⟩
theorem oE {α:Type}{sz:Nat}{R:View->Value->α->Prop}{V:View}{vs xs sp:List Value}{ls ms:List α}(h:Row sz R V vs ls)(h':Row sz R V xs ms)(hs:0<sz):Row sz R V (vs.take (ls.length*sz)++xs++sp) (ls++ms):=by
 have hl:=h.fl hs
 have hl':=h'.fl hs
 have ht:(vs.take (ls.length*sz)).length=ls.length*sz:=by rw [List.length_take];omega
 refine ⟨fun i hi=>?_⟩
 by_cases c:i<ls.length
 ·obtain ⟨ys,y1,y2,y3⟩:=h.at_ i c
  refine ⟨ys,y1,by rw [List.getElem_append_left c];exact y2,fun j x hj=>?_⟩
  have hj':=(List.getElem?_eq_some_iff.1 hj).1
  have hlt:i*sz+j<ls.length*sz:=by
   have:(i+1)*sz<=ls.length*sz:=Nat.mul_le_mul_right _ c
   rw [Nat.succ_mul] at this
   omega
  rw [List.append_assoc,List.getElem?_append_left (by omega),List.getElem?_take,if_pos hlt]
  exact y3 j x hj
 ·rw [List.length_append] at hi
  obtain ⟨m,rfl⟩:∃m,i=ls.length+m:=⟨i-ls.length,by omega⟩
  have hm:m<ms.length:=by omega
  obtain ⟨ys,y1,y2,y3⟩:=h'.at_ m hm
  refine ⟨ys,y1,?_,fun j x hj=>?_⟩
  ·have e:(ls++ms)[ls.length+m]=ms[m]:=by rw [List.getElem_append_right (by omega)];simp
   rw [e];exact y2
  ·have hj':=(List.getElem?_eq_some_iff.1 hj).1
   have hlt:m*sz+j<xs.length:=by
    have:(m+1)*sz<=ms.length*sz:=Nat.mul_le_mul_right _ hm
    rw [Nat.succ_mul] at this
    omega
   rw [List.append_assoc,List.getElem?_append_right (by rw [ht,Nat.add_mul];omega),ht,Nat.add_mul,List.getElem?_append_left (by omega)]
   rw [show ls.length*sz+m*sz+j-ls.length*sz=m*sz+j by omega]
   exact y3 j x hj
theorem lu {α:Type}{sz:Nat}{R:View->Value->α->Prop}{V:View}{vs:List Value}{al:List α}(h:Row sz R V vs al)(hs:0<sz)(hc:∀xs a,R V (.agg (List.toArray xs)) a->∀v∈xs,v.oneCell'=true){m:Nat}(hm:m<al.length*sz){v:Value}(hv:vs[m]?=some v):v.oneCell'=true:=by
 have hi:m / sz<al.length:=Nat.div_lt_of_lt_mul (by rw [Nat.mul_comm];exact hm)
 obtain ⟨xs,hl,hx,hat⟩:=h.at_ (m / sz) hi
 have hlt:m%sz<xs.length:=by rw [hl];exact Nat.mod_lt _ hs
 have e3:m=m / sz*sz+m%sz:=by rw [Nat.mul_comm];exact (Nat.div_add_mod m sz).symm
 have:=hat (m%sz) _ (List.getElem?_eq_getElem hlt)
 rw [←e3,hv] at this
 obtain rfl:=Option.some.inj this
 exact hc xs _ hx _ (List.getElem_mem hlt)
theorem yL {V:View}{lb n c:Nat}{vs:List Value}{o:List (Rat×Rat)}(hw:vs≠[]->V.w.heap[lb]?=some (.cells vs.toArray 108 (0,0)))(hx:vs≠[]->V.X lb)(hg:GR 6 kG V n c vs o)(hpos:vs≠[]->0<n)(hs:o.length<50)(hso:tB n c o) :
  ab prog 100 #[.slice (mA lb c) n c] V fun r V'=>∃(bm:Nat)(vm:List Value)(n' c':Nat)(m:List (Rat×Rat)),(vm≠[]->V'.w.heap[bm]?=some (.cells vm.toArray 108 (0,0)))/\(vm≠[]->V.w.heap.size<=bm\/(vs≠[]/\bm=lb)) /\
   r=.slice (mA bm c') n' c'/\Row 6 kG (V'.cf (vm≠[]) bm) vm (fj eP m)/\n'=(fj eP m).length/\n'<=c'/\m.Perm o/\m.Pairwise fun x y=>¬dk y x<0:=by
 have LW:∀{A B:Prop},A\/B\/False->A\/B:=fun h=>h.imp id fun h=>h.elim id False.elim
 have hcap:=hg.cap
 have hle:=hg.le
 have hlen:=hg.len
 refine qj lb n c vs V _ hw hx ⟨fun hz=>?_,fun hz V6 l6 O9 f1 f2=>?_⟩
 ·subst hz
  have c0:c=0:=by simp at hcap;omega
  subst c0
  have n0:n=0:=by omega
  subst n0
  have hnil:o=[]:=List.length_eq_zero_iff.1 hlen.symm
  refine ⟨rfl,fun V1 l1=>r_.mono ?_⟩
  rintro r V2 l2 rfl
  refine ⟨rfl,fun V3 l3 Yv e1 e2=>oa.mono ?_⟩
  rintro r V4 l4 rfl
  refine ⟨0,[],fun h=>absurd rfl h,fun h=>absurd rfl h,none,0,0,rfl,fun V5 Mr hl e3 e4=>⟨Mr,[],0,0,[],fun h=>absurd rfl h,fun h=>absurd rfl h,rfl,Row.nil,rfl,Nat.le_refl _,?_,List.Pairwise.nil⟩⟩
  rw [hnil]
 ·have hn0:=hpos hz
  have hc0:c≠0:=by omega
  have It:∀b,mA b c=some ⟨b,0,none⟩:=fun b=>by unfold mA;rw [if_neg hc0]
  rw [It]
  refine (hso (V6.au [vb vs V6.w.heap.size O9]) O9 vs (f1 hz) ⟨by simp [vq hz],f2 hz⟩ ⟨hg.row.le fun _ _ g=>kG.le g fun b o h=>l6 b o h,hlen,hs⟩).mono ?_
  rintro r V7 l7 ⟨rfl,vs',m,e3,sr,pm,pw⟩
  have NM:=pm.length_eq
  have EL:vs'≠[]:=fun e=>by
   have:=sr.row.fl (by decide)
   rw [e,NM,←hlen] at this
   simp at this
   omega
  refine ⟨rfl,hz,vs',EL,e3,fun V8 l8 Jq g1 g2=>?_⟩
  rw [It]
  refine ab.NO (tQ (V:=V8.au [vb vs' V8.w.heap.size Jq]) (lb:=Jq) (vs:=vs') (l:=m) (g1 EL) ⟨by simp [vq EL],g2 EL⟩ (sr.le fun b o h=>l8 b o h) hle) ?_
  rintro r V9 l9 hH ⟨ws,rfl,e4,row,wl⟩
  have hk:=uc (e:=eP) (l:=m)
  refine ⟨Jq,ws,fun _=>e4,fun _=>.inr ⟨EL,rfl⟩,some ⟨Jq,0,none⟩,(fj eP m).length,c,by rw [It],fun gT P6 hl k1 k2=>⟨P6,ws,_,c,m,k1,fun h=>LW (k2 h),rfl,?_,rfl,by omega,pm,pw⟩⟩
  exact row.le fun _ _ g=>kG.le g ((Gg fun _=>hH Jq (g2 EL)).trans hl)
def Co (k:Nat)(V:View)(v:Value)(c:Rat×Rat):Prop:=lO V v c.1 c.2/\Sz k c.1/\Sz k c.2
theorem Co.le {k:Nat}{V V':View}{v:Value}{c:Rat×Rat}(h:Co k V v c)(l:V.Le V'):Co k V' v c:=⟨h.1.le l,h.2⟩
theorem JN {a b:Int}{p:OA}{c d:Int}{q:OA}:∀v∈([.int .i64 a,.int .i64 b,.pointer p,.int .i64 c,.int .i64 d,.pointer q]:List Value),v.oneCell'=true:=by
 intro v hm
 simp only [List.mem_cons,List.not_mem_nil,or_false] at hm
 rcases hm with rfl|rfl|rfl|rfl|rfl|rfl<;>rfl
theorem zg {k:Nat}{V:View}{p:OA}{n:Nat}{al:List (Rat×Rat)}(h:nX 6 (Co k) V p n al){i:Nat}(hi:i<al.length) :
  p.isSome=true/\∃(x y:Int)(q:OA)(x' y':Int)(q':OA)(a:Addr),ah p (i*6)=some a/\V.at (a.add 0) (.int .i64 x)/\V.at (a.add 1) (.int .i64 y)/\V.at (a.add 2) (.pointer q)/\V.at (a.add 3) (.int .i64 x')/\V.at (a.add 4) (.int .i64 y')/\V.at (a.add 5) (.pointer q') /\
   Co k V (.agg #[.int .i64 x,.int .i64 y,.pointer q,.int .i64 x',.int .i64 y',.pointer q']) al[i]:=by
 obtain ⟨ad,h0,xs,h1,h2,h3⟩:=h.at_ i hi
 have h20:=h2
 obtain ⟨⟨x,y,q,x',y',q',e,-⟩,-⟩:=h2
 have e:=congrArg Array.toList (Value.agg.inj e)
 dsimp only at e
 subst e
 refine ⟨?_,x,y,q,x',y',q',ad,h0,h3 0 _ rfl,h3 1 _ rfl,h3 2 _ rfl,h3 3 _ rfl,h3 4 _ rfl,h3 5 _ rfl,h20⟩
 cases p with
 | none=>cases h0
 | some a=>rfl
def vh (u w:Rat×Rat):Rat×Rat:=if aA.cr u w>0 then (u.1+w.1,u.2+w.2) else (-u.2,u.1)
def jC (D:List (Rat×Rat)):List (Rat×Rat):=if D=[] then [(1,0)] else aA.Hc vh D
theorem Hq:Sz 1 (0:Rat):=by unfold Sz;decide
theorem Ho:Sz 300000 (0:Rat):=Hq.mono (by omega)
theorem E2 {f:Rat×Rat->Rat×Rat->Rat×Rat}{D:List (Rat×Rat)}:aA.Hc f D=(List.range D.length).map fun i=>f (D.getD i (0,0)) (D.getD ((i+1)%D.length) (0,0)):=rfl
theorem Eo {V:View}{p:OA}{n c:Nat}{D:List (Rat×Rat)}(h:nX 6 (Co 100000) V p n D)(hn:D.length<=1000000) :
  ab prog 99 #[.slice p n c] V fun r V'=>∃q n' c',r=.slice q n' c'/\nX 6 (Co 300000) V' q n' (jC D):=by
 have hl:=h.len
 subst hl
 refine vA p D.length c V _ ⟨fun h0 V1 l1=>(kL 1 (by omega) (by omega)).mono ?_,fun h0=>⟨fun z V'=>∃i:Nat,z.2.2.2=(i:Int)/\i<=D.length/\GR 6 (Co 300000) V' z.1 z.2.1 z.2.2.1 ((List.range i).map fun i=>vh (D.getD i (0,0)) (D.getD ((i+1)%D.length) (0,0))),fun z=>(D.length-z.2.2.2).toNat,⟨(0,0,[],0),by and_intros<;>rfl,0,rfl,Nat.zero_le _,GR.nil⟩,?_⟩⟩
 ·have h0:D=[]:=List.length_eq_zero_iff.1 (by have:=(beq_iff_eq.1 h0);omega)
  rintro r V2 l2 g
  have g0:=g
  obtain ⟨a,b,q,rfl⟩:=g.shape
  refine ⟨_,_,_,rfl,fun V3 l3 bk hb=>⟨_,1,1,rfl,?_⟩⟩
  unfold jC
  rw [if_pos h0]
  refine nX.zj hb (row_one rfl ⟨⟨_,_,_,_,_,_,rfl,g0.le l3,?_⟩,?_,Ho⟩)
  ·exact RR.zero _
  ·exact (zN).mono (by omega)
 ·have h0:D.length≠0:=fun e=>by rw [e] at h0;cases h0
  rintro ⟨n1,c1,vs1,z⟩ V4 l4 ⟨i,e,hi,g⟩
  dsimp only at e g ⊢
  subst e
  have gl:=g.len
  have Wb:n1=i:=by rw [gl];simp
  refine ⟨rfl,fun hlt=>?_,fun hlt lD bU bk hb=>?_⟩
  ·have hlt:i<D.length:=by have:=of_decide_eq_true hlt;omega
   have w1:i64.wrap ((i:Int)+1)=((i+1:Nat):Int):=by rw [ar (by omega)];rfl
   have hm:(((i+1:Nat):Int)).tmod (D.length:Int)=(((i+1)%D.length:Nat):Int):=by rw [Int.ofNat_tmod]
   have hj:(i+1)%D.length<D.length:=Nat.mod_lt _ (by omega)
   rw [w1,hm]
   simp only [Int.toNat_natCast]
   have h4:=h.le l4 fun _ _ g=>Co.le g l4
   obtain ⟨ps,x,y,q,x',y',q',a,ha,a0,a1,a2,a3,a4,a5,gu⟩:=zg h4 hlt
   obtain ⟨-,u,v,t,u',v',t',b,hb,b0,b1,b2,b3,b4,b5,gw⟩:=zg h4 hj
   have eu:D.getD i (0,0)=D[i]:=by rw [List.getD_eq_getElem?_getD,List.getElem?_eq_getElem hlt];rfl
   have ew:D.getD ((i+1)%D.length) (0,0)=D[(i+1)%D.length]:=by rw [List.getD_eq_getElem?_getD,List.getElem?_eq_getElem hj];rfl
   refine ⟨ps,⟨by omega,by omega⟩,x,y,q,x',y',q',a,ha,a0,a1,a2,a3,a4,a5,by omega,ps,⟨by omega,by omega⟩,u,v,t,u',v',t',b,hb,b0,b1,b2,b3,b4,b5,?_⟩
   have es:(List.range (i+1)).map (fun i=>vh (D.getD i (0,0)) (D.getD ((i+1)%D.length) (0,0)))=(List.range i).map (fun i=>vh (D.getD i (0,0)) (D.getD ((i+1)%D.length) (0,0)))++[vh D[i] D[(i+1)%D.length]]:=by
    rw [List.range_succ,List.map_append,List.map_singleton,eu,ew]
   generalize D[i]=U at *
   generalize D[(i+1)%D.length]=W at *
   refine fun V5 l5=>(mb (gu.1.le l5) (gw.1.le l5) gu.2.1 gu.2.2 gw.2.1 gw.2.2 (by omega)).mono ?_
   rintro r V6 l6 gc
   have Ii:=gc
   obtain ⟨k1,k2,k3,rfl⟩:=gc.shape
   refine ⟨_,_,_,rfl,fun V7 l7=>(fa (Ii.le l7) (kF gu.2.1 gu.2.2 gw.2.1 gw.2.2) (by omega)).mono ?_⟩
   rintro r V8 l8 rfl
   have KU:=l5.trans (l6.trans (l7.trans l8))
   refine ⟨_,rfl,fun hp V9 l9=>(yP (gu.1.le (KU.trans l9)) (gw.1.le (KU.trans l9)) gu.2.1 gu.2.2 gw.2.1 gw.2.2 (by omega)).mono ?_,fun hp gZ bJ=>(vZ (gu.1.le (KU.trans bJ)) gu.2.1 gu.2.2 (by omega)).mono ?_⟩
   ·rintro r gT l10 ga
    have hp:aA.cr U W>0:=aA.pY.1 (of_decide_eq_true hp)
    have MJ:Co 300000 gT r (vh U W):=by
     unfold vh
     rw [if_pos hp]
     exact ⟨ga,(iY gu.2.1 gu.2.2 gw.2.1 gw.2.2).mono (by omega),(iZ gu.2.1 gu.2.2 gw.2.1 gw.2.2).mono (by omega)⟩
    obtain ⟨_,_,_,_,_,_,rfl,-⟩:=ga
    refine ⟨_,_,_,_,_,_,rfl,by omega,g.le,g.cap,rfl,JN,fun sp c' g1 g2=>⟨(n1+1,c',_,((i+1:Nat):Int)),by dsimp only;omega,by and_intros<;>first|rfl|trivial,i+1,rfl,by omega,?_⟩⟩
    rw [es]
    exact (g.mono fun _ _ g=>Co.le g (KU.trans (l9.trans l10))).snoc (xs:=[_,_,_,_,_,_]) rfl MJ (by decide) g1 g2
   ·rintro r lQ cw ga
    have hp:¬aA.cr U W>0:=fun h=>(of_decide_eq_false hp) (aA.pY.2 h)
    have MJ:Co 300000 lQ r (vh U W):=by
     unfold vh
     rw [if_neg hp]
     exact ⟨ga,gu.2.2.neg.mono (by omega),gu.2.1.mono (by omega)⟩
    obtain ⟨_,_,_,_,_,_,rfl,-⟩:=ga
    refine ⟨_,_,_,_,_,_,rfl,by omega,g.le,g.cap,rfl,JN,fun sp c' g1 g2=>⟨(n1+1,c',_,((i+1:Nat):Int)),by dsimp only;omega,by and_intros<;>first|rfl|trivial,i+1,rfl,by omega,?_⟩⟩
    rw [es]
    exact (g.mono fun _ _ g=>Co.le g (KU.trans (bJ.trans cw))).snoc (xs:=[_,_,_,_,_,_]) rfl MJ (by decide) g1 g2
  ·have hlt:i=D.length:=by have:=of_decide_eq_false hlt;omega
   subst hlt
   refine ⟨_,_,_,rfl,?_⟩
   have hD:D≠[]:=fun e=>h0 (by rw [e];rfl)
   unfold jC
   rw [if_neg hD,E2,gl]
   exact nX.tj hb (g.row.le fun _ _ g=>Co.le g bU) (by decide) (by rw [←gl];exact g.le)
theorem En {V:View}(i a:Bool):ab prog 102 #[.bool i,.bool a] V fun r V'=>r=.int .i64 (if i&&a then 2 else if i then 1 else 0):=by
 refine vw i a V _ ⟨fun h=>⟨fun h' V1 l1=>?_,fun h'=>⟨fun h'' V2 l2=>?_,fun h'' V3 l3=>?_⟩⟩,fun h=>⟨fun h' V4 l4=>?_,fun h' V5 l5=>?_⟩⟩<;>simp_all
theorem yM {pv vv:Value}{p v:Rat×Rat}(s1:Sz 1000000 p.1)(s2:Sz 1000000 p.2)(s3:Sz 300000 v.1)(s4:Sz 300000 v.2){t:Tr}{V:View}{q:OA}(h:RT V q t)(ha:t.jH Bd)(hp:lO V pv p.1 p.2)(hv:lO V vv v.1 v.2) :
  ab prog 80 #[.pointer q,pv,vv] V fun r V'=>r=.tuple #[.bool (aA.jE t p v).1,.bool (aA.jE t p v).2]:=by
 have hp0:=hp
 have hv0:=hv
 obtain ⟨x1,x2,x3,y1,y2,y3,rfl,-⟩:=hp
 obtain ⟨u1,u2,u3,w1,w2,w3,rfl,-⟩:=hv
 refine sC q x1 x2 x3 y1 y2 y3 u1 u2 u3 w1 w2 w3 V _ ⟨fun z k V'=>∃t',RT V' z t'/\t'.jH Bd/\k=t'.size/\aA.jE t' p v=aA.jE t p v,⟨q,t.size,by and_intros<;>rfl,t,h,ha,rfl,rfl⟩,?_⟩
 rintro z k V1 l1 ⟨t',h',ha',rfl,e⟩
 rw [←e]
 clear e h ha t
 refine ⟨rfl,fun V2 l2=>(kK (h'.le l2)).mono ?_⟩
 rintro r V3 l3 rfl
 have bU:=l2.trans l3
 refine ⟨_,rfl,fun hl=>?_,fun hl=>?_⟩
 ·cases t' with
  | leaf i=>cases hl
  | node ln a b=>
   obtain ⟨bb,a1,a2,a3,b1,b2,b3,c1,c2,c3,pl,pr,i,rfl,hb,hln,Fl,htb⟩:=h'.le bU
   obtain ⟨hbd,MN,lW⟩:=ha'
   have hat:∀{W:View},V3.Le W->∀j v,([.int .i64 a1,.int .i64 a2,.pointer a3,.int .i64 b1,.int .i64 b2,.pointer b3,.int .i64 c1,.int .i64 c2,.pointer c3,.pointer pl,.pointer pr,.bool i]:List Value)[j]?=some v->W.at ((⟨bb,0,none⟩:Addr).add j) v:=by
    intro W hW j v hv;rw [add_zero'];exact cO (xs:=[_,_,_,_,_,_,_,_,_,_,_,_]) (hW _ _ hb) hv
   have h0:=View.Le.refl V3
   have sl:=hbd.HI
   have L3:=l1.trans bU
   refine ⟨rfl,rfl,_,_,_,_,_,_,_,_,_,⟨bb,0,none⟩,rfl,hat h0 0 _ rfl,hat h0 1 _ rfl,hat h0 2 _ rfl,hat h0 3 _ rfl,hat h0 4 _ rfl,hat h0 5 _ rfl,hat h0 6 _ rfl,hat h0 7 _ rfl,hat h0 8 _ rfl,fun V4 l4=>(F_ (L:=ln) (hln.le l4) (hp0.le (L3.trans l4)) (k:=1000000) ⟨sl.1.mono (by omega),sl.2.1.mono (by omega),sl.2.2.mono (by omega)⟩ s1 s2 (by omega)).mono ?_⟩
   rintro r V5 l5 rfl
   have wE:=l4.trans l5
   refine ⟨_,rfl,fun z _=>z=aA.u_ ln p v,⟨fun e0=>?_,fun e0=>?_⟩,?_⟩
   ·have e0:(cC ln p.1 p.2).num.sign=0:=by simpa using e0
    refine ⟨rfl,rfl,_,_,_,_,_,_,_,_,_,⟨bb,0,none⟩,rfl,hat wE 0 _ rfl,hat wE 1 _ rfl,hat wE 2 _ rfl,hat wE 3 _ rfl,hat wE 4 _ rfl,hat wE 5 _ rfl,hat wE 6 _ rfl,hat wE 7 _ rfl,hat wE 8 _ rfl,fun V6 l6=>(lF (hln.le (wE.trans l6)) sl.1 sl.2.1 sl.2.2 (by omega)).mono ?_⟩
    rintro r V7 l7 gn
    have Qy:=gn
    obtain ⟨d1,d2,d3,d4,d5,d6,rfl,-⟩:=gn
    refine ⟨_,_,_,_,_,_,rfl,fun V8 l8=>(pj (Qy.le l8) (hv0.le (L3.trans (wE.trans (l6.trans (l7.trans l8))))) (k:=300000) (sl.1.mono (by omega)) (sl.2.1.mono (by omega)) s3 s4 (by omega)).mono ?_⟩
    rintro r V9 l9 gd
    have Ks:=gd
    obtain ⟨e1,e2,e3,rfl⟩:=gd.shape
    refine ⟨_,_,_,rfl,fun gT l10=>(fa (Ks.le l10) (dJ (k:=300000) (sl.1.mono (by omega)) (sl.2.1.mono (by omega)) s3 s4) (by omega)).mono ?_⟩
    rintro r gZ bJ rfl
    refine ⟨_,rfl,_,by and_intros<;>rfl,?_⟩
    unfold aA.u_
    rw [if_pos e0];rfl
   ·have e0:¬(cC ln p.1 p.2).num.sign=0:=fun h=>by rw [h] at e0;cases e0
    refine ⟨_,by and_intros<;>rfl,?_⟩
    unfold aA.u_
    rw [if_neg e0]
   ·rintro z lQ cw rfl
    have IB:=wE.trans cw
    refine ⟨rfl,fun e1=>⟨rfl,rfl,pl,yk (IB _ _ hb) 9 rfl,pl,a.size,by simp only [Tr.size];omega,by and_intros<;>rfl,a,Fl.le IB,MN,rfl,?_⟩,fun e1=>⟨fun e2=>⟨rfl,rfl,pr,yk (IB _ _ hb) 10 rfl,pr,b.size,by simp only [Tr.size];omega,by and_intros<;>rfl,b,htb.le IB,lW,rfl,?_⟩,fun e2 lD bU=>?_⟩⟩
    ·have e1:aA.u_ ln p v=1:=by simpa using e1
     simp only [aA.jE];rw [if_pos e1]
    ·have e1:¬aA.u_ ln p v=1:=by simpa using e1
     have e2:aA.u_ ln p v=-1:=by simpa using e2
     simp only [aA.jE];rw [if_neg e1,if_pos e2]
    ·have e1:¬aA.u_ ln p v=1:=by simpa using e1
     have e2:¬aA.u_ ln p v=-1:=by simpa using e2
     simp only [aA.jE];rw [if_neg e1,if_neg e2]
 ·cases t' with
  | node ln a b=>cases hl
  | leaf i=>
   obtain ⟨b,c0,c1,c2,c3,c4,c5,c6,c7,c8,r,rfl,hb⟩:=h'.le bU
   exact ⟨rfl,rfl,i,yk hb 11 rfl,fun o_ dL=>rfl⟩
theorem C0 (n:Int){d:Nat}(h:d≠0):mkRat n d*((d:Nat):Rat)=(n:Rat):=by
 have hd:((d:Nat):Rat)≠0:=by exact_mod_cast h
 rw [Rat.mkRat_eq_div,Rat.div_def]
 exact aA.inv_mul hd _
theorem FY {p:Rat×Rat}(h:aA.nz p):gN p.1 p.2>0:=by
 have hd:p.1.den*p.2.den≠0:=Nat.mul_ne_zero p.1.den_nz p.2.den_nz
 have e:=C0 (Nat.gcd (p.1.num.natAbs*p.2.den) (p.2.num.natAbs*p.1.den):Nat) hd
 have hg:0<Nat.gcd (p.1.num.natAbs*p.2.den) (p.2.num.natAbs*p.1.den):=by
  apply Nat.pos_of_ne_zero
  intro z
  rw [Nat.gcd_eq_zero_iff] at z
  have z1:p.1=0:=by
   rcases Nat.mul_eq_zero.1 z.1 with e|e
   ·exact Rat.num_eq_zero.1 (by omega)
   ·exact absurd e p.2.den_nz
  have z2:p.2=0:=by
   rcases Nat.mul_eq_zero.1 z.2 with e|e
   ·exact Rat.num_eq_zero.1 (by omega)
   ·exact absurd e p.1.den_nz
  unfold aA.nz at h
  rcases h with h|h
  ·exact h z1
  ·exact h z2
 have d0:((p.1.den*p.2.den:Nat):Rat)>0:=by exact_mod_cast Nat.pos_of_ne_zero hd
 have g0:(((Nat.gcd (p.1.num.natAbs*p.2.den) (p.2.num.natAbs*p.1.den):Nat):Int):Rat)>0:=by exact_mod_cast hg
 show mkRat _ _>0
 generalize mkRat ((Nat.gcd (p.1.num.natAbs*p.2.den) (p.2.num.natAbs*p.1.den):Nat):Int) (p.1.den*p.2.den)=q at *
 by_cases hq:q>0
 ·exact hq
 ·have:=aA.mn (show -q≥0 by grind) (show ((p.1.den*p.2.den:Nat):Rat)≥0 by grind)
  grind
theorem Bu {p:Rat×Rat}(h:aA.nz p):∃c:Rat,c>0/\jy p=(c*p.1,c*p.2):=
 ⟨(gN p.1 p.2)⁻¹,Rat.inv_pos.2 (FY h),Prod.ext (Rat.mul_comm ..) (Rat.mul_comm ..)⟩
theorem th {l:L3}(h:¬(l.1=0/\l.2.1=0)):aA.nz (aA.cA l):=by
 unfold aA.nz aA.cA
 by_cases e:l.2.1=0
 ·right
  intro e'
  have:(l.1:Rat)=0:=by grind
  exact h ⟨by exact_mod_cast this,e⟩
 ·left
  show (l.2.1:Rat)≠0
  exact_mod_cast e
def EA (s a:Bool):Int:=if a then 2 else if s then 1 else 0
def eX (t:Tr)(p:Rat×Rat)(c:Int):Prop:=∀D S,aA.Aj D->aA.Fg D S->aA.Ee D (aA.cS t p)->c=EA (aA.anyS t p S) (aA.jI t p S)
theorem ub {t:Tr}{p:Rat×Rat}{D S:List (Rat×Rat)}(h1:aA.Aj D)(h2:aA.Fg D S)(h3:aA.Ee D (aA.cS t p)):eX t p (EA (aA.anyS t p S) (aA.jI t p S)):=by
 intro D' S' g1 g2 g3
 obtain ⟨e1,e2⟩:=aA.Lg h1 h2 g1 g2 h3 g3
 rw [e1,e2]
theorem zh {q:L3->Prop}{t:Tr}(h:t.jH q){p:Rat×Rat}:∀l∈aA.cS t p,q l:=fun l hl=>ju h l (aA.mu hl).2
theorem I6 {u w:Rat×Rat}(h:aA.cr u w≥0):aA.qv u w (vh u w):=by
 unfold vh
 by_cases g:aA.cr u w>0
 ·rw [if_pos g]
  exact .inl ⟨g,1,1,by decide,by decide,Prod.ext (by unfold aA.wF;grind) (by unfold aA.wF;grind)⟩
 ·rw [if_neg g]
  exact .inr ⟨by grind,1,by decide,Prod.ext (by unfold aA.wF aA.Ea;grind) (by unfold aA.wF aA.Ea;grind)⟩
theorem nt {D:List (Rat×Rat)}(h:aA.Aj D):aA.Fg D (jC D):=by
 unfold jC
 by_cases e:D=[]
 ·rw [if_pos e];exact .inl ⟨e,rfl⟩
 ·rw [if_neg e];exact aA.I3 h (fun u _ w _ hc=>I6 hc) e
theorem Hd (D:List (Rat×Rat)):jC D≠[]:=by
 unfold jC
 by_cases e:D=[]
 ·rw [if_pos e];simp
 ·rw [if_neg e]
  intro h
  have:=congrArg List.length h
  unfold aA.Hc at this
  rw [List.length_map,List.length_range] at this
  exact e (List.length_eq_zero_iff.1 this)
theorem E3 (D:List (Rat×Rat)):(jC D).length<=D.length+1:=by
 unfold jC
 split
 ·simp
 ·unfold aA.Hc;simp
theorem yi (M:List L3):(gX M).length=2*M.length:=by
 induction M with
 | nil=>rfl
 | cons l M ih=>
  have:gX (l::M)=IQ l++gX M:=rfl
  rw [this,List.length_append,ih]
  simp [IQ];omega
theorem pN:∀(t:Tr)(p:Rat×Rat),(aA.cS t p).length<=t.size
 | .leaf _,_=>Nat.le_refl _
 | .node l a b,p=>by
  have:=pN a p
  have:=pN b p
  simp only [aA.cS,List.length_append,Tr.size]
  have h1:(if cC l p.1 p.2=0 then [l] else []).length<=1:=by split<;>simp
  have h2:(if cC l p.1 p.2≥0 then aA.cS a p else []).length<=a.size:=by
   split
   ·omega
   ·simp
  have h3:(if cC l p.1 p.2<=0 then aA.cS b p else []).length<=b.size:=by
   split
   ·omega
   ·simp
  omega
theorem zD {M:List L3}(ho:∀l∈M,¬(l.1=0/\l.2.1=0)){m:List (Rat×Rat)}(pm:m.Perm (gX M))(pw:m.Pairwise fun x y=>¬dk y x<0):aA.Aj (fj eP m)/\aA.Ee (fj eP m) M:=by
 have mem:∀r,r∈m↔∃l∈M,r=jy (aA.cA l)\/r=C1 (jy (aA.cA l)):=fun r=>by
  rw [pm.mem_iff]
  unfold gX IQ
  simp only [List.mem_flatMap,List.mem_cons,List.not_mem_nil,or_false]
 have key:=aA.Lb (m:=m) pw ?_ ?_
 ·obtain ⟨k1,k2⟩:=key
  refine ⟨k1,fun l hl=>?_⟩
  obtain ⟨y,hy,c,c0,e⟩:=k2 (jy (aA.cA l)) ((mem _).2 ⟨l,hl,.inl rfl⟩)
  obtain ⟨d,d0,e'⟩:=Bu (th (ho l hl))
  refine ⟨y,hy,c*d,aA.mp c0 d0,?_⟩
  rw [e,e']
  exact Prod.ext (by show c*(d*_)=_;grind) (by show c*(d*_)=_;grind)
 ·intro r hr
  obtain ⟨l,hl,h⟩:=(mem r).1 hr
  have n0:=th (ho l hl)
  obtain ⟨d,d0,e'⟩:=Bu n0
  have np:aA.nz (jy (aA.cA l)):=by
   rw [e']
   unfold aA.nz at n0 ⊢
   rcases n0 with n0|n0
   ·exact .inl fun h=>by rcases Rat.mul_eq_zero.1 h with h|h;grind;exact n0 h
   ·exact .inr fun h=>by rcases Rat.mul_eq_zero.1 h with h|h;grind;exact n0 h
  rcases h with rfl|rfl
  ·exact np
  ·unfold aA.nz C1 at *
   rcases np with np|np
   ·exact .inl (by show -(jy (aA.cA l)).1≠0;grind)
   ·exact .inr (by show -(jy (aA.cA l)).2≠0;grind)
 ·intro r hr
  obtain ⟨l,hl,h⟩:=(mem r).1 hr
  rcases h with rfl|rfl
  ·exact ⟨_,(mem _).2 ⟨l,hl,.inr rfl⟩,1,by decide,by unfold C1;grind,by unfold C1;grind⟩
  ·exact ⟨_,(mem _).2 ⟨l,hl,.inl rfl⟩,1,by decide,by unfold C1;grind,by unfold C1;grind⟩
theorem iu {t:Tr}{p:Rat×Rat}{S:List (Rat×Rat)}{i:Nat}(h:i<S.length):aA.anyS t p (S.take (i+1))=(aA.anyS t p (S.take i)||(aA.jE t p S[i]).1):=by
 unfold aA.anyS
 rw [←List.take_append_getElem h,List.any_append]
 simp
theorem ir {t:Tr}{p:Rat×Rat}{S:List (Rat×Rat)}{i:Nat}(h:i<S.length):aA.jI t p (S.take (i+1))=(aA.jI t p (S.take i)&&(aA.jE t p S[i]).1):=by
 unfold aA.jI
 rw [←List.take_append_getElem h,List.all_append]
 simp
theorem HP {t:Tr}{p:Rat×Rat}{S:List (Rat×Rat)}(h:S≠[])(ha:aA.jI t p S=true):aA.anyS t p S=true:=by
 cases S with
 | nil=>exact absurd rfl h
 | cons x r=>
  unfold aA.jI at ha
  unfold aA.anyS
  simp only [List.all_cons,Bool.and_eq_true] at ha
  simp [ha.1]
theorem AA {pv:Value}{p:Rat×Rat}(s1:Sz 1000000 p.1)(s2:Sz 1000000 p.2){t:Tr}{V:View}{q:OA}(h:RT V q t)(ha:t.jH Bd)(ho:t.jH fun l=>¬(l.1=0/\l.2.1=0))(hs:t.size<25)(hso:∀n c,tB n c (gX (aA.cS t p)))(hp:lO V pv p.1 p.2) :
  ab prog 46 #[.pointer q,pv] V fun r V'=>∃c,r=.int .i64 c/\eX t p c:=by
 have hp0:=hp
 obtain ⟨x1,x2,x3,y1,y2,y3,rfl,-⟩:=hp
 refine vr q x1 x2 x3 y1 y2 y3 V _ fun V1 l1=>(Cu s1 s2 t (V:=V1) (lb:=0) (n:=0) (c:=0) (vs:=[]) (o:=[]) (h.le l1) ha (hp0.le l1) (fun h=>absurd rfl h) (fun h=>absurd rfl h) GR.nil (fun h=>absurd rfl h) (by omega)).mono ?_
 rintro r V2 l2 ⟨bm,vm,n1,c1,a1,a2,rfl,a3,a4,a5⟩
 have O8:vm≠[]->V1.w.heap.size<=bm:=fun h=>(a2 h).elim id fun h=>absurd rfl h.1
 refine ⟨bm,vm,a1,fun h=>.inl (O8 h),none,n1,c1,rfl,fun V3 l3 Kh e1 e2=>?_⟩
 have L3:V.Le V3:=l1.trans ((pK l2 (View.Le.refl V1) fun h=>.inl (O8 h)).trans l3)
 rw [List.nil_append] at a3
 have ng:(gX (aA.cS t p)).length<50:=by
  have:=pN t p
  rw [yi];omega
 refine (yL (V:=V3.au [vb vm V3.w.heap.size Kh]) (lb:=Kh) e1 (fun h=>⟨by simp [vq h],e2 h⟩) (a3.mono (V':=V3.au _) fun _ _ g=>kG.le g fun b o h=>l3 b o h) a4 ng (hso _ _)).mono ?_
 rintro r V4 l4 ⟨VM,Xq,n2,c2,m,b1,b2,rfl,row,rfl,b4,pm,pw⟩
 refine ⟨VM,Xq,b1,b2,none,_,c2,rfl,fun V5 l5 Jq e3=>?_⟩
 have L5:V.Le V5:=L3.trans ((pK (V:=V3) (V':=V3) (fun b o h=>l4 b o h) (View.Le.refl V3) fun h=>(b2 h).imp id fun h'=>by rw [h'.2];exact e2 h'.1).trans l5)
 have NM:=pm.length_eq
 have VT:=uc (e:=eP) (l:=m)
 obtain ⟨ry,cv⟩:=zD (zh ho) pm pw
 refine (Eo (D:=fj eP m) (nX.tj e3 (row.le fun _ _ g=>(kG.le g fun b o h=>l5 b o h:kG V5 _ _)) (by decide) b4) (by omega)).mono ?_
 rintro r V6 l6 ⟨q',n3,c3,rfl,hS⟩
 have ne:=Hd (fj eP m)
 have sm:=nt ry
 have sl:=E3 (fj eP m)
 generalize jC (fj eP m)=S at *
 have hl:=hS.len
 subst hl
 refine ⟨q',_,c3,rfl,fun _=>⟨fun z V'=>∃i:Nat,z.2.2=(i:Int)/\i<=S.length/\z.1=aA.anyS t p (S.take i)/\z.2.1=aA.jI t p (S.take i),fun z=>(S.length-z.2.2).toNat,⟨(false,true,0),by and_intros<;>rfl,0,rfl,Nat.zero_le _,rfl,rfl⟩,?_⟩⟩
 rintro ⟨z1,z2,z3⟩ V7 l7 ⟨i,e,hi,f1,f2⟩
 dsimp only at e f1 f2 ⊢
 subst e f1 f2
 have L7:=L5.trans (l6.trans l7)
 refine ⟨rfl,fun hlt=>?_,fun hlt gT l10=>(En _ _).mono ?_⟩
 ·have hlt:i<S.length:=by have:=of_decide_eq_true hlt;omega
  have w1:i64.wrap ((i:Int)+1)=((i+1:Nat):Int):=by rw [ar (by omega)];rfl
  obtain ⟨ps,x,y,qq,x',y',Xc,a,QX,g0,g1,g2,g3,g4,g5,gu⟩:=zg (hS.le l7 fun _ _ g=>Co.le g l7) hlt
  rw [w1]
  simp only [Int.toNat_natCast]
  refine ⟨ps,⟨by omega,by omega⟩,x,y,qq,x',y',Xc,a,QX,g0,g1,g2,g3,g4,g5,fun V8 l8=>(yM (p:=p) (v:=S[i]) (s1.mono (by omega)) (s2.mono (by omega)) gu.2.1 gu.2.2 (h.le (L7.trans l8)) ha (hp0.le (L7.trans l8)) (gu.1.le l8)).mono ?_⟩
  rintro r V9 l9 rfl
  refine ⟨_,_,rfl,fun k=>⟨(true,_,((i+1:Nat):Int)),by dsimp only;omega,by and_intros<;>first|rfl|trivial,i+1,rfl,by omega,?_,?_⟩,fun k=>⟨(_,false,((i+1:Nat):Int)),by dsimp only;omega,by and_intros<;>first|rfl|trivial,i+1,rfl,by omega,?_,?_⟩⟩
  ·rw [iu hlt,k,Bool.or_true]
  ·rw [ir hlt,k,Bool.and_true];rfl
  ·rw [iu hlt,k,Bool.or_false];rfl
  ·rw [ir hlt,k,Bool.and_false]
 ·have hlt:i=S.length:=by have:=of_decide_eq_false hlt;omega
  subst hlt
  rintro r gZ bJ rfl
  refine ⟨_,rfl,fun lQ cw=>⟨_,rfl,?_⟩⟩
  rw [List.take_length]
  have:(if (aA.anyS t p S&&aA.jI t p S)=true then (2:Int) else if aA.anyS t p S=true then 1 else 0)=EA (aA.anyS t p S) (aA.jI t p S):=by
   unfold EA
   cases e:aA.jI t p S
   ·simp
   ·rw [HP ne e];rfl
  rw [this]
  exact ub ry sm cv
theorem zu (l:List Nd):∀(f:Nat)(n:Int)(s:RS),s.bad=true->(eo l f n s).2.bad=true
 | 0,_,_,h=>h
 | f+1,n,s,h=>by
  simp only [eo]
  split
  ·exact h
  ·split
   ·exact h
   ·split
    ·rfl
    ·split
     ·split
      ·exact zu l f _ _ (zu l f _ _ h)
      ·rfl
     ·rfl
def Rp (l:List Nd):Int->Tr->Prop
 | n,.leaf i=>n=(if i then -2 else -1)
 | n,.node ln a b=>∃(k:Nat)(x:Nd),n=(k:Int)/\l[k]?=some x/\x.ln=ln/\ka ln=true/\Rp l x.left a/\Rp l x.right b
theorem C3 (l:List Nd):∀(f:Nat)(n:Int)(s:RS),s.seen.count false<f->(eo l f n s).2.bad=false->Rp l n (eo l f n s).1/\(eo l f n s).2.kU=s.kU+(eo l f n s).1.size
 | 0,_,_,h,_=>by omega
 | f+1,n,s,hf,h=>by
  simp only [eo] at h ⊢
  by_cases n2:n=-2
  ·rw [if_pos n2];exact ⟨n2,rfl⟩
  rw [if_neg n2] at h ⊢
  by_cases n1:n=-1
  ·rw [if_pos n1];exact ⟨n1,rfl⟩
  rw [if_neg n1] at h ⊢
  by_cases n0:n<0
  ·rw [if_pos n0] at h;cases h
  rw [if_neg n0] at h ⊢
  split at h
  ·rename_i x hx hs
   by_cases ho:ka x.ln=true
   ·rw [if_pos ho] at h ⊢
    dsimp only at h ⊢
    have hb:(eo l f x.left ⟨s.seen.set n.toNat true,s.kU+1,s.bad⟩).2.bad=false:=by
     cases e:(eo l f x.left ⟨s.seen.set n.toNat true,s.kU+1,s.bad⟩).2.bad
     ·rfl
     ·have:=zu l f x.right _ e
      rw [h] at this;cases this
    have hc:=count_set hs
    obtain ⟨i1,i2⟩:=C3 l f x.left _ (by dsimp only;omega) hb
    have hm:=(pP l f x.left ⟨s.seen.set n.toNat true,s.kU+1,s.bad⟩).1
    dsimp only at i2 hm
    obtain ⟨j1,j2⟩:=C3 l f x.right _ (by omega) h
    exact ⟨⟨n.toNat,x,by omega,hx,rfl,ho,i1,j1⟩,by simp only [Tr.size];omega⟩
   ·rw [if_neg ho] at h;cases h
  ·cases h
theorem K0 {l:List Nd}{root:Int}{t:Tr}(h:su l root=some t):Rp l root t/\l.length=t.size/\t.jH fun x=>ka x=true:=by
 unfold su at h
 split at h
 ·cases h
 ·dsimp only at h
  split at h
  ·cases h
  ·rename_i hb
   cases h
   have hb':(eo l (l.length+1) root ⟨List.replicate l.length false,0,false⟩).2.bad=false/\(eo l (l.length+1) root ⟨List.replicate l.length false,0,false⟩).2.kU=l.length:=by
    constructor
    ·cases e:(eo l (l.length+1) root ⟨List.replicate l.length false,0,false⟩).2.bad
     ·rfl
     ·exact absurd (.inl e) hb
    ·by_cases e:(eo l (l.length+1) root ⟨List.replicate l.length false,0,false⟩).2.kU=l.length
     ·exact e
     ·exact absurd (.inr e) hb
   obtain ⟨h1,h2⟩:=C3 l (l.length+1) root ⟨List.replicate l.length false,0,false⟩ (by simp) hb'.1
   have ok:∀{t:Tr} {n:Int},Rp l n t->t.jH fun x=>ka x=true:=by
    intro t
    induction t with
    | leaf i=>intro n _;trivial
    | node ln a b iha ihb=>rintro n ⟨k,x,_,_,_,ho,ha,hb⟩;exact ⟨ho,iha ha,ihb hb⟩
   refine ⟨h1,?_,ok h1⟩
   have:=hb'.2
   rw [h2] at this
   dsimp only at this
   omega
def Ed (V:View)(w:Value)(p:Rat×Rat):Prop:=(∃b q n c q' n' c' d r m e r' m' e',w=.agg #[.bool b,.slice q n c,.slice q' n' c',.bool d,.slice r m e,.slice r' m' e']) /\
 ∀V1,V.Le V1->ab prog 47 #[w] V1 fun r V'=>lO V' r p.1 p.2
theorem Ed.le {V V':View}{w:Value}{p:Rat×Rat}(h:Ed V w p)(l:V.Le V'):Ed V' w p:=⟨h.1,fun V1 l1=>h.2 V1 (l.trans l1)⟩
theorem Ed.of {V:View}{w:Value}{p:Rat×Rat}(h:J6 V w p.1 p.2){k:Nat}(s1:Sz k p.1)(s2:Sz k p.2)(hk:k<=1099511627776):Ed V w p:=by
 refine ⟨?_,fun V1 l1=>Cv (h.le l1) s1 s2 hk⟩
 obtain ⟨b,q,n,c,q',n',c',d,r,m,e,r',m',e',rfl,-⟩:=h
 exact ⟨_,_,_,_,_,_,_,_,_,_,_,_,_,_,rfl⟩
theorem Ed.raw {V:View}{b d:Bool}{q q' r r':OA}{n c n' c' m e m' e':Nat}{xs ys us vs:List Nat}(h1:RD V q n c xs)(h2:RD V q' n' c' ys)(h3:RD V r m e us)(h4:RD V r' m' e' vs)(k1:xs.length<=1000000)(k2:ys.length<=1000000)(k3:us.length<=1000000)(k4:vs.length<=1000000) :
  Ed V (.agg #[.bool b,.slice q n c,.slice q' n' c',.bool d,.slice r m e,.slice r' m' e']) (mkRat (aY b xs) (val ys),mkRat (aY d us) (val vs)):=by
 refine ⟨⟨_,_,_,_,_,_,_,_,_,_,_,_,_,_,rfl⟩,fun V0 l0=>?_⟩
 refine rY b q n c q' n' c' d r m e r' m' e' V0 _ fun V1 l1=>(oe b (h1.le (l0.trans l1)) (h2.le (l0.trans l1)) (by omega) (by omega)).mono ?_
 rintro r V2 l2 g
 have g0:=g
 obtain ⟨x1,x2,x3,rfl⟩:=g.shape
 refine ⟨_,_,_,rfl,fun V3 l3=>(oe d (h3.le (l0.trans (l1.trans (l2.trans l3)))) (h4.le (l0.trans (l1.trans (l2.trans l3)))) (by omega) (by omega)).mono ?_⟩
 rintro r V4 l4 g'
 have g0':=g'
 obtain ⟨y1,y2,y3,rfl⟩:=g'.shape
 exact ⟨_,_,_,rfl,fun V5 l5=>⟨_,_,_,_,_,_,rfl,g0.le (l3.trans (l4.trans l5)),g0'.le l5⟩⟩
theorem Ed.zero {V:View}:Ed V (.agg #[.bool false,.slice none 0 0,.slice none 0 0,.bool false,.slice none 0 0,.slice none 0 0]) (0,0):=by
 have e:mkRat (aY false []) (val [])=0:=by decide
 have:=@Ed.raw V false false none none none none 0 0 0 0 0 0 0 0 [] [] [] [] RD.nil RD.nil RD.nil RD.nil (by decide) (by decide) (by decide) (by decide)
 rw [e] at this
 exact this
theorem zk {l:L3}(h:ka l=true):¬(l.1=0/\l.2.1=0):=by
 unfold ka at h
 rw [Bool.and_eq_true,decide_eq_true_iff] at h
 exact h.1
theorem me {V:View}{v w:Value}{root:Int}{l:List Nd}(hb:∀x∈l,Bd x.ln)(h:AT V v root l){p:Rat×Rat}(hp:Ed V w p)(s1:Sz 1000000 p.1)(s2:Sz 1000000 p.2)(hs:∀t,su l root=some t->t.size<25)(hso:∀t,su l root=some t->∀n c,tB n c (gX (aA.cS t p)))
  {y:Value}(hy:vX V 0 y) :
  ab prog 13 #[v,w] V fun r V'=>(su l root=none->r=.tuple #[.int .i64 0,y])/\∀t,su l root=some t->∃c,r=.tuple #[.int .i64 c,.nilIface]/\eX t p c:=by
 have h0:=h
 obtain ⟨q,n,c,rfl,-⟩:=h
 have hp0:=hp
 obtain ⟨⟨b,q1,n1,c1,q2,n2,c2,d,r,m,e,r',m',e',rfl⟩,hp1⟩:=hp
 refine sK root q n c b q1 n1 c1 q2 n2 c2 d r m e r' m' e' V _ fun V1 l1=>(Er hb (h0.le l1)).mono ?_
 rintro r V2 l2 ⟨a,rfl,ha⟩
 have vU:=l1.trans l2
 refine ⟨_,_,rfl,fun g=>⟨y,⟨_,rfl,hy.le vU⟩,fun V3 l3=>?_⟩,fun g V4 l4=>(hp1 V4 (vU.trans l4)).mono ?_⟩
 ·have g:su l root=none:=by cases e:su l root with
   | none=>rfl
   | some t=>rw [e] at g;cases g
  exact ⟨fun _=>rfl,fun t ht=>by rw [g] at ht;cases ht⟩
 ·cases e:su l root with
  | none=>rw [e] at g;cases g
  | some t=>
   rintro r V5 l5 gp
   have Wh:=gp
   obtain ⟨_,_,_,_,_,_,rfl,-⟩:=gp
   have ok:=(K0 e).2.2
   refine ⟨_,_,_,_,_,_,rfl,fun V6 l6=>(AA s1 s2 ((ha t e).le (l4.trans (l5.trans l6))) (IH hb e) (ok.imp fun _ h=>zk h) (hs t e) (hso t e) (Wh.le l6)).mono ?_⟩
   rintro r V7 l7 ⟨c,rfl,hc⟩
   exact ⟨c,rfl,fun V8 l8=>⟨(fun h=>by cases h),fun t' ht=>by cases ht;exact ⟨c,rfl,hc⟩⟩⟩
theorem jL {V:View}{v w:Value}{x y x' y':Rat}(h:RP V v x y)(h':RP V w x' y'){k:Nat}(s1:Sz k x)(s2:Sz k y)(s3:Sz k x')(s4:Sz k y')(hk:4*k+4<274877906944) :
  ab prog 60 #[v,w] V fun r V'=>RQ V' r (x*y'-y*x'):=by
 obtain ⟨_,_,_,_,_,_,_,_,_,_,_,_,rfl,h1,h2⟩:=h
 obtain ⟨_,_,_,_,_,_,_,_,_,_,_,_,rfl,h3,h4⟩:=h'
 refine vJ _ _ _ _ _ _ _ _ _ _ _ _ _ _ _ _ _ _ _ _ _ _ _ _ _ _ _ _ V _ fun V1 l1=>(aO (h1.le l1) (h4.le l1) s1 s4 (by omega)).mono ?_
 rintro r V2 l2 g
 have g0:=g
 obtain ⟨_,_,_,_,_,_,rfl⟩:=g.shape
 refine ⟨_,_,_,_,_,_,_,rfl,fun V3 l3=>(aO (h2.le (l1.trans (l2.trans l3))) (h3.le (l1.trans (l2.trans l3))) s2 s3 (by omega)).mono ?_⟩
 rintro r V4 l4 g'
 have g0':=g'
 obtain ⟨_,_,_,_,_,_,rfl⟩:=g'.shape
 refine ⟨_,_,_,_,_,_,_,rfl,fun V5 l5=>(kj (g0.le (l3.trans (l4.trans l5))) (g0'.le l5) (s1.mul s4) (s2.mul s3) (by omega)).mono ?_⟩
 rintro r V6 l6 q
 have q0:=q
 obtain ⟨_,_,_,_,_,_,rfl⟩:=q.shape
 exact ⟨_,_,_,_,_,_,_,rfl,fun V7 l7=>q0.le l7⟩
theorem LD.raw {V:View}{v:Value}{l:L3}{s:Sp}(h:LD V v l s)(ho:U_ l s){k:Nat}(sl:yz k l)(ss:s.sz k)(hk:k<=1000000):∃f:FW,OW V v f/\f.ok=true/\f.ln=l/\f.sp=s/\f.short:=by
 obtain ⟨b1,p1,n1,c1,b2,p2,n2,c2,b3,p3,n3,c3,b,p,n,c,p',n',c',d,q,m,e,q',m',e',rfl,h1,h2⟩:=h
 obtain ⟨_,_,_,_,_,_,_,_,_,el,x1,x2,x3⟩:=h1
 have el:=congrArg Array.toList (Value.agg.inj el)
 simp only [List.cons.injEq,Value.bool.injEq,Value.slice.injEq,and_true] at el
 obtain ⟨rfl,⟨rfl,rfl,rfl⟩,rfl,⟨rfl,rfl,rfl⟩,rfl,rfl,rfl,rfl⟩:=el
 obtain ⟨_,_,_,_,_,_,_,_,_,_,_,_,_,_,es,y1,y2⟩:=h2
 have es:=congrArg Array.toList (Value.agg.inj es)
 simp only [List.cons.injEq,Value.bool.injEq,Value.slice.injEq,and_true] at es
 obtain ⟨rfl,⟨rfl,rfl,rfl⟩,⟨rfl,rfl,rfl⟩,rfl,⟨rfl,rfl,rfl⟩,⟨rfl,rfl,rfl⟩⟩:=es
 obtain ⟨ok,can,emp⟩:=ho
 obtain ⟨w1,us,vs,r1,o1,e1,z1⟩:=y1.raw can.1
 obtain ⟨w2,ws,ts,r2,o2,e2,z2⟩:=y2.raw can.2
 have i1:=r1
 have i2:=r2
 obtain ⟨_,_,_,_,_,_,f1,-,-⟩:=i1
 obtain ⟨_,_,_,_,_,_,f2,-,-⟩:=i2
 have f1:=congrArg Array.toList (Value.agg.inj f1)
 have f2:=congrArg Array.toList (Value.agg.inj f2)
 simp only [List.cons.injEq,Value.bool.injEq,Value.slice.injEq,and_true] at f1 f2
 obtain ⟨rfl,-⟩:=f1
 obtain ⟨rfl,-⟩:=f2
 have len:∀{z:Int},Sz k (z:Rat)->(ai z.natAbs).length<=1000000:=fun h=>Nat.le_trans (af h.1) hk
 have d1:=z1 k ss.1
 have d2:=z2 k ss.2
 refine ⟨⟨decide (l.1<0),ai l.1.natAbs,decide (l.2.1<0),ai l.2.1.natAbs,decide (l.2.2<0),ai l.2.2.natAbs,b,us,vs,d,ws,ts,s.a,s.b⟩,⟨_,_,_,_,_,_,_,_,_,_,_,_,_,_,_,_,_,_,_,_,_,rfl,⟨_,_,_,_,_,_,_,_,_,rfl,x1,x2,x3⟩,⟨_,_,_,_,_,_,_,_,_,_,_,_,rfl,r1,r2⟩⟩,?_,?_,?_,⟨len sl.1,len sl.2.1,len sl.2.2,Nat.le_trans d1.1 hk,Nat.le_trans d1.2 hk,Nat.le_trans d2.1 hk,Nat.le_trans d2.2 hk⟩⟩
 ·have e3:Ou b us vs d ws ts s.a s.b=s:=by unfold Ou;rw [e1,e2]
  unfold FW.ok okW
  dsimp only
  rw [Bq,o1,o2,e3,emp]
  show ka l&&true=true
  rw [ok];rfl
 ·unfold FW.ln UH
  dsimp only
  rw [aH,aH,aH]
 ·unfold FW.sp Ou
  dsimp only
  rw [e1,e2]
theorem mf {V:View}{v:Value}{q:Rat}(h:RQ V v q):ab prog 59 #[v] V fun r V'=>r=.int .i64 q.num.sign:=by
 obtain ⟨_,_,_,_,_,_,rfl,h1,-⟩:=h
 exact sS q h1
theorem kT {V:View}{v:Value}{p:Rat×Rat}(h:RP V v p.1 p.2):ab prog 110 #[v] V fun r V'=>r=.int .i64 (aA.half p):=by
 obtain ⟨_,_,_,_,_,_,_,_,_,_,_,_,rfl,hx,hy⟩:=h
 refine xh _ _ _ _ _ _ _ _ _ _ _ _ _ _ V _ fun V1 l1=>(mf (hx.le l1)).mono ?_
 rintro r V2 l2 rfl
 refine ⟨_,rfl,fun V3 l3=>(mf (hy.le (l1.trans (l2.trans l3)))).mono ?_⟩
 rintro r V4 l4 rfl
 have key:∀z:Int,(z=if p.2.num.sign>0\/p.2.num.sign=0/\p.1.num.sign>0 then 1 else if p.2.num.sign<0\/p.1.num.sign<0 then 2 else 0)->Value.int .i64 z=.int .i64 (aA.half p):=fun z e=>by rw [e];rfl
 refine ⟨_,rfl,fun a=>?_,fun a=>?_⟩
 ·have a:p.1.num.sign=0:=by simpa using a
  refine ⟨fun b V5 l5=>key _ ?_,fun b=>⟨fun c V6 l6=>key _ ?_,fun c=>⟨fun d=>⟨fun e V7 l7=>key _ ?_,fun e V8 l8=>key _ ?_⟩,fun d V9 l9=>key _ ?_⟩⟩⟩
  ·have b:p.2.num.sign=0:=by simpa using b
   rw [if_neg (by omega),if_neg (by omega)]
  ·have c:p.2.num.sign>0:=of_decide_eq_true c
   rw [if_pos (.inl c)]
  ·have b:¬p.2.num.sign=0:=by simpa using b
   have d:p.2.num.sign=0:=by simpa using d
   exact absurd d b
  ·have b:¬p.2.num.sign=0:=by simpa using b
   have d:p.2.num.sign=0:=by simpa using d
   exact absurd d b
  ·have b:¬p.2.num.sign=0:=by simpa using b
   have c:¬p.2.num.sign>0:=of_decide_eq_false c
   rw [if_neg (by omega),if_pos (by omega)]
 ·have a:¬p.1.num.sign=0:=by simpa using a
  refine ⟨fun c V6 l6=>key _ ?_,fun c=>⟨fun d=>⟨fun e V7 l7=>key _ ?_,fun e V8 l8=>key _ ?_⟩,fun d V9 l9=>key _ ?_⟩⟩
  ·have c:p.2.num.sign>0:=of_decide_eq_true c
   rw [if_pos (.inl c)]
  ·have d:p.2.num.sign=0:=by simpa using d
   have e:p.1.num.sign>0:=of_decide_eq_true e
   rw [if_pos (.inr ⟨d,e⟩)]
  ·have d:p.2.num.sign=0:=by simpa using d
   have e:¬p.1.num.sign>0:=of_decide_eq_false e
   rw [if_neg (by omega),if_pos (by omega)]
  ·have d:¬p.2.num.sign=0:=by simpa using d
   have c:¬p.2.num.sign>0:=of_decide_eq_false c
   rw [if_neg (by omega),if_pos (by omega)]
theorem Lh (q:Rat):-1<=q.num.sign/\q.num.sign<=1:=by
 rcases Int.lt_trichotomy q.num 0 with h|h|h
 ·rw [Int.sign_eq_neg_one_of_neg h];omega
 ·rw [h];decide
 ·rw [Int.sign_eq_one_of_pos h];omega
theorem nM {V:View}{v w:Value}{a b:Rat×Rat}(h:RP V v a.1 a.2)(h':RP V w b.1 b.2){k:Nat}(s1:Sz k a.1)(s2:Sz k a.2)(s3:Sz k b.1)(s4:Sz k b.2)(hk:4*k+4<274877906944) :
  ab prog 58 #[v,w] V fun r V'=>r=.int .i64 (aA.fA a b):=by
 have h0:=h
 have h0':=h'
 obtain ⟨_,_,_,_,_,_,_,_,_,_,_,_,rfl,-⟩:=h
 obtain ⟨_,_,_,_,_,_,_,_,_,_,_,_,rfl,-⟩:=h'
 refine vH _ _ _ _ _ _ _ _ _ _ _ _ _ _ _ _ _ _ _ _ _ _ _ _ _ _ _ _ V _ fun V1 l1=>(kT (h0.le l1)).mono ?_
 rintro r V2 l2 rfl
 refine ⟨_,rfl,fun V3 l3=>(kT (h0'.le (l1.trans (l2.trans l3)))).mono ?_⟩
 rintro r V4 l4 rfl
 have dL:=l1.trans (l2.trans (l3.trans l4))
 refine ⟨_,rfl,fun g=>⟨fun g' V5 l5=>?_,fun g' V6 l6=>?_⟩,fun g V7 l7=>(jL (h0.le (dL.trans l7)) (h0'.le (dL.trans l7)) s1 s2 s3 s4 hk).mono ?_⟩
 ·unfold aA.fA;rw [if_pos (of_decide_eq_true g')]
 ·have g:aA.half a≠aA.half b:=by simpa using g
  have g':¬aA.half a<aA.half b:=of_decide_eq_false g'
  unfold aA.fA;rw [if_neg g',if_pos (by omega)]
 ·have g:aA.half a=aA.half b:=by simpa using g
  rintro r V8 l8 gc
  have Ii:=gc
  obtain ⟨_,_,_,_,_,_,rfl⟩:=gc.shape
  refine ⟨_,_,_,_,_,_,_,rfl,fun V9 l9=>(mf (Ii.le l9)).mono ?_⟩
  rintro r gT l10 rfl
  refine ⟨_,rfl,fun gZ bJ=>?_⟩
  have bd:=Lh (a.1*b.2-a.2*b.1)
  rw [ar (by omega)]
  unfold aA.fA;rw [if_neg (by omega),if_neg (by omega)]
  show _=Value.int .i64 (-(a.1*b.2-a.2*b.1).num.sign)
  congr 1;omega
theorem AJ {V:View}{v:Value}{p:Rat×Rat}(h:RP V v p.1 p.2){k:Nat}(s1:Sz k p.1)(s2:Sz k p.2)(hk:k<=1099511627776):ab prog 57 #[v] V fun r V'=>RP V' r (-p.1) (-p.2):=by
 obtain ⟨_,_,_,_,_,_,_,_,_,_,_,_,rfl,hx,hy⟩:=h
 refine Ac _ _ _ _ _ _ _ _ _ _ _ _ _ _ V _ fun V1 l1=>(iJ (hx.le l1) s1 hk).mono ?_
 rintro r V2 l2 g
 have g0:=g
 obtain ⟨_,_,_,_,_,_,rfl⟩:=g.shape
 refine ⟨_,_,_,_,_,_,_,rfl,fun V3 l3=>(iJ (hy.le (l1.trans (l2.trans l3))) s2 hk).mono ?_⟩
 rintro r V4 l4 g'
 have g0':=g'
 obtain ⟨_,_,_,_,_,_,rfl⟩:=g'.shape
 exact ⟨_,_,_,_,_,_,_,rfl,fun V5 l5=>⟨_,_,_,_,_,_,_,_,_,_,_,_,rfl,g0.le (l3.trans (l4.trans l5)),g0'.le l5⟩⟩
theorem tX {V:View}{v w:Value}{z y:Int}(ha:RI V v z)(hb:RI V w y)(hm:(ai z.natAbs).length+(ai y.natAbs).length<=1099511627776):ab prog 75 #[v,w] V fun r V'=>RI V' r (z*y):=by
 obtain ⟨_,_,_,rfl,h1⟩:=ha
 obtain ⟨_,_,_,rfl,h2⟩:=hb
 exact iz z y h1 h2 hm
theorem tZ {pv vv:Value}{p v:Rat×Rat}{k:Nat}(hk1:1000<=k)(hk:16*k+16<274877906944)(s1:Sz k p.1)(s2:Sz k p.2)(s3:Sz k v.1)(s4:Sz k v.2){t:Tr}{V:View}{q:OA}(h:RW V q t)(ha:t.jH Bd)(hp:RP V pv p.1 p.2)(hv:RP V vv v.1 v.2) :
  ab prog 52 #[.pointer q,pv,vv] V fun r V'=>r=.tuple #[.bool (aA.jE t p v).1,.bool (aA.jE t p v).2]:=by
 have hp0:=hp
 have hv0:=hv
 obtain ⟨_,_,_,_,_,_,_,_,_,_,_,_,rfl,-⟩:=hp
 obtain ⟨_,_,_,_,_,_,_,_,_,_,_,_,rfl,-⟩:=hv
 refine sM q _ _ _ _ _ _ _ _ _ _ _ _ _ _ _ _ _ _ _ _ _ _ _ _ _ _ _ _ V _ ⟨fun z k V'=>∃t',RW V' z t'/\t'.jH Bd/\k=t'.size/\aA.jE t' p v=aA.jE t p v,⟨q,t.size,by and_intros<;>rfl,t,h,ha,rfl,rfl⟩,?_⟩
 rintro z m V1 l1 ⟨t',h',ha',rfl,e⟩
 rw [←e]
 clear e h ha t
 cases t' with
 | leaf i=>
  obtain ⟨is,g0,g1⟩:=D5 h'
  exact ⟨rfl,is,is,_,g0,(fun h=>by cases h),fun _=>⟨is,is,_,g1,fun V5 l5=>rfl⟩⟩
 | node ln a b=>
  obtain ⟨bb,i,b1,p1,n1,c1,b2,p2,n2,c2,b3,p3,n3,c3,pl,pr,rfl,hb,hl,Fl,htb⟩:=h'
  obtain ⟨hbd,MN,lW⟩:=ha'
  have sl:=hbd.HI
  have ha2:∀{W:View},V1.Le W->∀j v,([.bool b1,.slice p1 n1 c1,.bool b2,.slice p2 n2 c2,.bool b3,.slice p3 n3 c3]:List Value)[j]?=some v->W.at (((⟨bb,0,none⟩:Addr).add 2).add j) v:=by
   intro W hW j v hv
   rw [yA,add_zero']
   refine cO (xs:=[_,_,_,_,_,_,_,_,_,_]) (hW _ _ hb) ?_
   have hj:j<6:=(List.getElem?_eq_some_iff.1 hv).1
   match j,hj,hv with
   | 0,_,h=>exact h
   | 1,_,h=>exact h
   | 2,_,h=>exact h
   | 3,_,h=>exact h
   | 4,_,h=>exact h
   | 5,_,h=>exact h
  have l0:=View.Le.refl V1
  refine ⟨rfl,rfl,rfl,false,yk hb 0 rfl,fun _=>⟨rfl,rfl,b1,p1,n1,c1,b2,p2,n2,c2,b3,p3,n3,c3,(⟨bb,0,none⟩:Addr).add 2,rfl,ha2 l0 0 _ rfl,ha2 l0 1 _ rfl,ha2 l0 2 _ rfl,ha2 l0 3 _ rfl,ha2 l0 4 _ rfl,ha2 l0 5 _ rfl,fun V2 l2=>(G3 (hl.le l2) (hp0.le (l1.trans l2)) (k:=k) ⟨sl.1.mono hk1,sl.2.1.mono hk1,sl.2.2.mono hk1⟩ s1 s2 hk).mono ?_⟩,(fun h=>by cases h)⟩
  rintro r V3 l3 rfl
  have bU:=l2.trans l3
  refine ⟨_,rfl,fun z _=>z=aA.u_ ln p v,⟨fun e0=>?_,fun e0=>?_⟩,?_⟩
  ·have e0:(cC ln p.1 p.2).num.sign=0:=by simpa using e0
   refine ⟨rfl,rfl,b1,p1,n1,c1,b2,p2,n2,c2,b3,p3,n3,c3,(⟨bb,0,none⟩:Addr).add 2,rfl,ha2 bU 0 _ rfl,ha2 bU 1 _ rfl,ha2 bU 2 _ rfl,ha2 bU 3 _ rfl,ha2 bU 4 _ rfl,ha2 bU 5 _ rfl,fun V4 l4=>(gv (hl.le (bU.trans l4)) sl.1 sl.2.1 sl.2.2 (by omega)).mono ?_⟩
   rintro r V5 l5 gd
   have Ks:RP V5 r (aA.cA ln).1 (aA.cA ln).2:=gd
   obtain ⟨_,_,_,_,_,_,_,_,_,_,_,_,rfl,-⟩:=gd
   refine ⟨_,_,_,_,_,_,_,_,_,_,_,_,_,_,rfl,fun V6 l6=>(jL (Ks.le l6) (hv0.le (l1.trans (bU.trans (l4.trans (l5.trans l6))))) (k:=k) (sl.2.1.mono hk1) (sl.1.neg.mono hk1) s3 s4 (by omega)).mono ?_⟩
   rintro r V7 l7 gc
   have Ii:=gc
   obtain ⟨_,_,_,_,_,_,rfl⟩:=gc.shape
   refine ⟨_,_,_,_,_,_,_,rfl,fun V8 l8=>(mf (Ii.le l8)).mono ?_⟩
   rintro r V9 l9 rfl
   refine ⟨_,rfl,_,by and_intros<;>rfl,?_⟩
   unfold aA.u_
   rw [if_pos e0,aA.JL];rfl
  ·have e0:¬(cC ln p.1 p.2).num.sign=0:=fun h=>by rw [h] at e0;cases e0
   refine ⟨_,by and_intros<;>rfl,?_⟩
   unfold aA.u_
   rw [if_neg e0]
  ·rintro z gT l10 rfl
   have CV:=bU.trans l10
   refine ⟨rfl,fun e1=>⟨rfl,rfl,pl,yk (CV _ _ hb) 8 rfl,pl,a.size,by simp only [Tr.size];omega,by and_intros<;>rfl,a,Fl.le CV,MN,rfl,?_⟩,fun e1=>⟨fun e2=>⟨rfl,rfl,pr,yk (CV _ _ hb) 9 rfl,pr,b.size,by simp only [Tr.size];omega,by and_intros<;>rfl,b,htb.le CV,lW,rfl,?_⟩,fun e2 lD bU=>?_⟩⟩
   ·have e1:aA.u_ ln p v=1:=by simpa using e1
    simp only [aA.jE];rw [if_pos e1]
   ·have e1:¬aA.u_ ln p v=1:=by simpa using e1
    have e2:aA.u_ ln p v=-1:=by simpa using e2
    simp only [aA.jE];rw [if_neg e1,if_pos e2]
   ·have e1:¬aA.u_ ln p v=1:=by simpa using e1
    have e2:¬aA.u_ ln p v=-1:=by simpa using e2
    simp only [aA.jE];rw [if_neg e1,if_neg e2]
def mS (V:View)(v:Value)(l:L3):Prop:=RL V v l.1 l.2.1 l.2.2
theorem mS.le {V V':View}{v:Value}{l:L3}(h:mS V v l)(e:V.Le V'):mS V' v l:=RL.le h e
theorem fQ {V:View}{v:Value}{l:L3}(h:mS V v l):∃(b1:Bool)(p1:OA)(n1 c1:Nat)(b2:Bool)(p2:OA)(n2 c2:Nat)(b3:Bool)(p3:OA)(n3 c3:Nat),v=.agg #[.bool b1,.slice p1 n1 c1,.bool b2,.slice p2 n2 c2,.bool b3,.slice p3 n3 c3]:=by
 obtain ⟨_,_,_,_,_,_,_,_,_,e,-⟩:=h;exact ⟨_,_,_,_,_,_,_,_,_,_,_,_,e⟩
theorem zH {V:View}{xs:List Value}{l:L3}(h:mS V (.agg (List.toArray xs)) l):∀v∈xs,v.oneCell'=true:=by
 obtain ⟨_,_,_,_,_,_,_,_,_,_,_,_,e⟩:=fQ h
 have e:=congrArg Array.toList (Value.agg.inj e)
 dsimp only at e
 subst e
 intro v hm
 simp only [List.mem_cons,List.not_mem_nil,or_false] at hm
 rcases hm with rfl|rfl|rfl|rfl|rfl|rfl<;>rfl
theorem R0 {b:Bool}{p:OA}{n c:Nat}{b':Bool}{p':OA}{n' c':Nat}{b'':Bool}{p'':OA}{n'' c'':Nat}:∀v∈([.bool b,.slice p n c,.bool b',.slice p' n' c',.bool b'',.slice p'' n'' c'']:List Value),v.oneCell'=true:=by
 intro v hm
 simp only [List.mem_cons,List.not_mem_nil,or_false] at hm
 rcases hm with rfl|rfl|rfl|rfl|rfl|rfl<;>rfl
theorem jM:∀(t:Tr) {V:View} {p:OA},RW V p t->t.size<=1000000->ab prog 54 #[.pointer p] V fun r V'=>∃q n c,r=.slice q n c/\nX 6 mS V' q n t.qt
 | .leaf i,V,p,h,hs=>by
  obtain ⟨s,e0,-⟩:=D5 h
  exact mN p V _ ⟨s,s,_,e0,fun _ V1 l1=>⟨_,_,_,rfl,nX.nil⟩,(fun h=>nomatch h)⟩
 | .node ln a b,V,p,h,hs=>by
  have h0:=h
  obtain ⟨bb,i,b1,p1,n1,c1,b2,p2,n2,c2,b3,p3,n3,c3,pl,pr,rfl,hb,hl,ha,hbb⟩:=h
  have hat:∀j v,([.bool false,.bool i,.bool b1,.slice p1 n1 c1,.bool b2,.slice p2 n2 c2,.bool b3,.slice p3 n3 c3,.pointer pl,.pointer pr]:List Value)[j]?=some v->V.at ((⟨bb,0,none⟩:Addr).add j) v:=by
   intro j v hv;rw [add_zero'];exact cO (xs:=[_,_,_,_,_,_,_,_,_,_]) hb hv
  have ha2:∀j v,([.bool b1,.slice p1 n1 c1,.bool b2,.slice p2 n2 c2,.bool b3,.slice p3 n3 c3]:List Value)[j]?=some v->V.at (((⟨bb,0,none⟩:Addr).add 2).add j) v:=by
   intro j v hv
   rw [yA]
   refine hat (2+j) v ?_
   have hj:j<6:=(List.getElem?_eq_some_iff.1 hv).1
   match j,hj,hv with
   | 0,_,h=>exact h
   | 1,_,h=>exact h
   | 2,_,h=>exact h
   | 3,_,h=>exact h
   | 4,_,h=>exact h
   | 5,_,h=>exact h
  simp only [Tr.size] at hs
  have la:=k_ a
  have lb:=k_ b
  refine mN _ V _ ⟨rfl,rfl,false,yk hb 0 rfl,(fun h=>nomatch h),fun _=>⟨rfl,rfl,_,_,_,_,_,_,_,_,_,_,_,_,(⟨bb,0,none⟩:Addr).add 2,rfl,ha2 0 _ rfl,ha2 1 _ rfl,ha2 2 _ rfl,ha2 3 _ rfl,ha2 4 _ rfl,ha2 5 _ rfl,rfl,rfl,pl,yk hb 8 rfl,rfl,rfl,pr,yk hb 9 rfl,fun V2 l2=>(jM a (ha.le l2) (by omega)).mono ?_⟩⟩
  rintro r V3 l3 ⟨q,n,c,rfl,g⟩
  obtain rfl:=g.len
  obtain ⟨xs,x1,x2,x3⟩:=ya g (by decide)
  have oc:∀v∈xs,v.oneCell'=true:=fun v hv=>by
   obtain ⟨m,hm,rfl⟩:=List.mem_iff_getElem.1 hv
   exact lu x3 (by decide) (fun _ _=>zH) (by omega) (List.getElem?_eq_getElem hm)
  have r1:Row 6 mS V3 ([.bool b1,.slice p1 n1 c1,.bool b2,.slice p2 n2 c2,.bool b3,.slice p3 n3 c3]:List Value) [ln]:=row_one rfl (hl.le (l2.trans l3))
  refine ⟨_,_,_,rfl,xs,x1,x2,by omega,Nat.le_refl _,Nat.le_refl 6,x2,oc,fun bk J sp c' h1 h2 V4 l4=>(jM b (hbb.le (l2.trans (l3.trans l4))) (by omega)).mono ?_⟩
  rintro r V5 l5 ⟨q',n',c'',rfl,g'⟩
  obtain rfl:=g'.len
  obtain ⟨ys,y1,y2,y3⟩:=ya g' (by decide)
  have W_:∀v∈ys,v.oneCell'=true:=fun v hv=>by
   obtain ⟨m,hm,rfl⟩:=List.mem_iff_getElem.1 hv
   exact lu y3 (by decide) (fun _ _=>zH) (by omega) (List.getElem?_eq_getElem hm)
  have r2:=oE (sp:=sp) r1 x3 (by decide)
  have hl2:([ln]++a.qt).length=1+a.qt.length:=by simp;omega
  have r3:=oE (sp:=[]) (r2.le fun _ _ g=>mS.le g (l4.trans l5)) y3 (by decide)
  rw [hl2] at r3
  refine ⟨_,_,_,rfl,ys,y1,y2,by omega,h1,?_,y2,W_,fun bk2 J2 sp2 c3' h3 h4 V6 l6 HV hbk=>⟨_,_,_,rfl,?_⟩⟩
  ·simp only [List.length_append,List.length_take,List.length_cons,List.length_nil,x2]
   omega
  ·have r4:=oE (sp:=sp2) (r2.le fun _ _ g=>mS.le g (l4.trans l5)) y3 (by decide)
   rw [hl2] at r4
   have:=nX.zj hbk (r4.le fun _ _ g=>mS.le g l6)
   have hl3:([ln]++a.qt++b.qt).length=1+a.qt.length+b.qt.length:=by rw [List.length_append,hl2]
   rw [hl3] at this
   exact this
def ko (x:L3):List L3->List L3
 | []=>[x]
 | y::r=>if oq y x<0 then y::ko x r else if y=x then y::r else x::y::r
theorem Iy {x:L3}:∀(o:List L3)(k:Nat),k<=o.length->(∀j (h:j<o.length),j<k->oq o[j] x<0)->(∀h:k<o.length,¬oq o[k] x<0) ->
  ko x o=if (∃h:k<o.length,o[k]=x) then o else o.take k++x::o.drop k:=by
 intro o
 induction o with
 | nil=>
  intro k hk _ _
  obtain rfl:k=0:=by simpa using hk
  simp [ko]
 | cons y r ih=>
  intro k hk hlt hge
  cases k with
  | zero=>
   have h0:¬oq y x<0:=hge (by simp)
   unfold ko
   rw [if_neg h0]
   by_cases e:y=x
   ·rw [if_pos e,if_pos ⟨by simp,e⟩]
   ·rw [if_neg e,if_neg (by rintro ⟨_,h⟩;exact e h)]
    rfl
  | succ k=>
   have h0:oq y x<0:=hlt 0 (by simp) (by omega)
   unfold ko
   rw [if_pos h0,ih k (by simpa using hk) (fun j h hj=>hlt (j+1) (by simpa using h) (by omega)) (fun h=>hge (by simpa using h))]
   by_cases e:∃h:k<r.length,r[k]=x
   ·obtain ⟨h1,h2⟩:=e
    rw [if_pos ⟨h1,h2⟩,if_pos ⟨by simpa using h1,h2⟩]
   ·rw [if_neg e,if_neg (by rintro ⟨h1,h2⟩;exact e ⟨by simpa using h1,h2⟩)]
    rfl
def cT (l:List L3):List L3:=l.foldl (fun o x=>ko (cJ x) o) []
theorem CH {l:List L3}{i:Nat}(h:i<l.length):cT (l.take (i+1))=ko (cJ l[i]) (cT (l.take i)):=by
 unfold cT
 rw [List.take_add_one,List.getElem?_eq_getElem h,List.foldl_append]
 rfl
theorem Bb (x:L3):∀o:List L3,(ko x o).length<=o.length+1
 | []=>by simp [ko]
 | y::r=>by
  have:=Bb x r
  unfold ko
  split
  ·simp;omega
  ·split<;>simp
theorem qP (l:List L3):(cT l).length<=l.length:=by
 have:∀(l o:List L3),(l.foldl (fun o x=>ko (cJ x) o) o).length<=o.length+l.length:=by
  intro l
  induction l with
  | nil=>intro o;simp
  | cons x r ih=>
   intro o
   have h1:=ih (ko (cJ x) o)
   have h2:=Bb (cJ x) o
   simp only [List.foldl_cons,List.length_cons]
   omega
 have:=this l []
 simpa [cT] using this
def Bj (a b:L3):Prop:=oq a b<0
theorem NL {a b c:L3}(h:Bj a b)(h':Bj b c):Bj a c:=by unfold Bj at *;rw [yX] at *;omega
theorem NI {a b:L3}(h:Bj a b)(h':Bj b a):False:=by unfold Bj at *;rw [yX] at *;omega
theorem NJ {a:L3}(h:Bj a a):False:=NI h h
theorem NK {a b:L3}(h:¬Bj a b)(hne:a≠b):Bj b a:=by
 have:¬(a.1=b.1/\a.2.1=b.2.1/\a.2.2=b.2.2):=fun ⟨e1,e2,e3⟩=>hne (Prod.ext e1 (Prod.ext e2 e3))
 unfold Bj at *
 rw [yX] at *
 omega
theorem uA {x y:L3}:∀{o:List L3},y∈ko x o↔y=x\/y∈o
 | []=>by simp [ko]
 | z::r=>by
  unfold ko
  split
  ·simp only [List.mem_cons,uA (o:=r)]
   constructor
   ·rintro (h|h|h)<;>simp [h]
   ·rintro (h|h|h)<;>simp [h]
  ·split
   ·rename_i e;subst e;simp
   ·simp
theorem Ba {x:L3}:∀{o:List L3},o.Pairwise Bj->(ko x o).Pairwise Bj
 | [],_=>List.pairwise_singleton _ _
 | z::r,h=>by
  obtain ⟨h1,h2⟩:=List.pairwise_cons.1 h
  unfold ko
  split
  ·rename_i hz
   refine List.pairwise_cons.2 ⟨fun y hy=>?_,Ba h2⟩
   rcases uA.1 hy with rfl|hy
   ·exact hz
   ·exact h1 y hy
  ·rename_i hz
   split
   ·exact h
   ·rename_i hne
    have hx:Bj x z:=NK hz hne
    refine List.pairwise_cons.2 ⟨fun y hy=>?_,h⟩
    rcases List.mem_cons.1 hy with rfl|hy
    ·exact hx
    ·exact NL hx (h1 y hy)
theorem iL (l:List L3):(cT l).Pairwise Bj/\∀x,x∈cT l↔x∈l.map cJ:=by
 have:∀(l o:List L3),o.Pairwise Bj->(l.foldl (fun o x=>ko (cJ x) o) o).Pairwise Bj/\∀x,x∈l.foldl (fun o x=>ko (cJ x) o) o↔x∈o\/x∈l.map cJ:=by
  intro l
  induction l with
  | nil=>intro o h;exact ⟨h,fun x=>by simp⟩
  | cons y r ih=>
   intro o h
   obtain ⟨h1,h2⟩:=ih (ko (cJ y) o) (Ba h)
   refine ⟨h1,fun x=>?_⟩
   rw [List.foldl_cons,h2 x,uA,List.map_cons,List.mem_cons]
   constructor
   ·rintro ((h|h)|h)<;>simp [h]
   ·rintro (h|h|h)<;>simp [h]
 obtain ⟨h1,h2⟩:=this l [] List.Pairwise.nil
 exact ⟨h1,fun x=>by rw [cT,h2 x];simp⟩
theorem we {V:View}{v:Value}{l:L3}(h:mS V v l):ab prog 108 #[v] V fun r V'=>∃w b,r=.tuple #[w,.bool b]/\mS V' w (cJ l):=by
 have h0:=h
 obtain ⟨p1,n1,c1,p2,n2,c2,p3,n3,c3,rfl,h1,h2,h3⟩:=h
 have rev:∀(V3:View),V.Le V3->(l.1<0\/l.1=0/\l.2.1<0)->ab prog 158 #[.agg #[.bool (decide (l.1<0)),.slice p1 n1 c1,.bool (decide (l.2.1<0)),.slice p2 n2 c2,.bool (decide (l.2.2<0)),.slice p3 n3 c3]] V3 fun r V'=>mS V' r (cJ l):=fun V3 l3 hc=>by
  refine (AK (a:=l.1) (b:=l.2.1) (c:=l.2.2) (h0.le l3)).mono ?_
  rintro r V4 l4 g
  unfold cJ
  rw [if_pos hc]
  exact g
 refine vI _ _ _ _ _ _ _ _ _ _ _ _ V _ fun V1 l1=>(kR l.1 (h1.le l1)).mono ?_
 rintro r V2 l2 rfl
 have L2:=l1.trans l2
 refine ⟨_,rfl,fun hc V3 l3=>(rev V3 (L2.trans l3) (.inl (Int.sign_neg_iff.1 (of_decide_eq_true hc)))).mono ?_,fun hc=>⟨fun h0' V6 l6=>(kR l.2.1 (h2.le (L2.trans l6))).mono ?_,fun hne lQ cw=>?_⟩⟩
 ·rintro r V4 l4 g
  have g0:=g
  obtain ⟨_,_,_,_,_,_,_,_,_,_,_,_,rfl⟩:=fQ g
  exact ⟨_,_,_,_,_,_,_,_,_,_,_,_,rfl,fun V5 l5=>⟨_,_,rfl,g0.le l5⟩⟩
 ·have hz:l.1=0:=Int.sign_eq_zero_iff_zero.1 (by simpa using h0')
  rintro r V7 l7 rfl
  have L7:=L2.trans (l6.trans l7)
  refine ⟨_,rfl,fun hd V8 l8=>(rev V8 (L7.trans l8) (.inr ⟨hz,Int.sign_neg_iff.1 (of_decide_eq_true hd)⟩)).mono ?_,fun hd gZ bJ=>⟨_,_,rfl,?_⟩⟩
  ·rintro r V9 l9 g
   have g0:=g
   obtain ⟨_,_,_,_,_,_,_,_,_,_,_,_,rfl⟩:=fQ g
   exact ⟨_,_,_,_,_,_,_,_,_,_,_,_,rfl,fun gT l10=>⟨_,_,rfl,g0.le l10⟩⟩
  ·have hd:=of_decide_eq_false hd
   unfold cJ
   rw [if_neg fun h=>hd (Int.sign_neg_iff.2 (h.elim (fun h=>by omega) (·.2)))]
   exact h0.le (L7.trans bJ)
 ·have hc:=of_decide_eq_false hc
  have hne:¬l.1=0:=fun e=>by rw [e] at hne;simp at hne
  refine ⟨_,_,rfl,?_⟩
  unfold cJ
  rw [if_neg fun h=>h.elim (fun h=>hc (Int.sign_neg_iff.2 h)) (fun h=>hne h.1)]
  exact h0.le (L2.trans cw)
theorem G_ {V:View}{vs:List Value}{ls:List L3}(h:Row 6 mS V vs ls){i:Nat}(hi:i<ls.length):∃b1 p1 n1 c1 b2 p2 n2 c2 b3 p3 n3 c3,i*6+6<=vs.length/\(vs.drop (i*6)).take 6=[Value.bool b1,.slice p1 n1 c1,.bool b2,.slice p2 n2 c2,.bool b3,.slice p3 n3 c3] /\
  mS V (.agg #[.bool b1,.slice p1 n1 c1,.bool b2,.slice p2 n2 c2,.bool b3,.slice p3 n3 c3]) ls[i]:=by
 obtain ⟨xs,h1,h2,h3⟩:=h.at_ i hi
 have hl:=h.fl (by decide)
 have h20:=h2
 obtain ⟨_,_,_,_,_,_,_,_,_,_,_,_,e⟩:=fQ h2
 have e:=congrArg Array.toList (Value.agg.inj e)
 dsimp only at e
 subst e
 refine ⟨_,_,_,_,_,_,_,_,_,_,_,_,by omega,?_,h20⟩
 apply List.ext_getElem?
 intro j
 rw [List.getElem?_take]
 split
 ·rename_i hj
  rw [List.getElem?_drop]
  exact h3 j _ (List.getElem?_eq_getElem (by show j<6;omega))▸(List.getElem?_eq_getElem (by show j<6;omega)).symm
 ·rename_i hj
  rw [List.getElem?_eq_none (by show 6<=j;omega)]
set_option maxHeartbeats 1000000 in
theorem qK {V:View}{p:OA}{n c:Nat}{ls:List L3}(h:nX 6 mS V p n ls)(hn:ls.length<100000000)(hs:∀l∈ls,Bd l) :
  ab prog 53 #[.slice p n c] V fun r V'=>∃q m e,r=.slice q m e/\nX 6 mS V' q m (cT ls):=by
 obtain rfl:=h.len
 refine qn p _ c V _ ⟨fun z V'=>∃i:Nat,z.2.2.2=(i:Int)/\i<=ls.length/\GR 6 mS V' z.1 z.2.1 z.2.2.1 (cT (ls.take i)),fun z=>ls.length-z.2.2.2.toNat,
  ⟨(0,0,[],0),by and_intros<;>rfl,0,rfl,Nat.zero_le _,GR.nil⟩,?_⟩
 rintro ⟨w1,w2,us,z4⟩ V1 l1 ⟨i,e4,YI,hg⟩
 dsimp only at e4 hg
 subst e4
 have g1:=hg.len
 have fc:=hg.le
 have fv:=hg.cap
 have fx:=hg.row
 refine ⟨rfl,fun hlt=>?_,fun hlt lD bU bk hb=>?_⟩
 rotate_left
 ·have hlt:¬(i:Int)<ls.length:=of_decide_eq_false hlt
  obtain rfl:i=ls.length:=by omega
  rw [List.take_length] at g1 fx
  subst g1
  exact ⟨_,_,_,rfl,nX.tj hb (fx.le fun _ _ g=>mS.le g bU) (by decide) fc⟩
 have hlt:(i:Int)<ls.length:=of_decide_eq_true hlt
 have hi:i<ls.length:=by omega
 have w:i64.wrap ((i:Int)+1)=((i+1:Nat):Int):=by rw [ar (by omega)];rfl
 dsimp only
 rw [Int.toNat_natCast,w]
 obtain ⟨ad,ha,xs,-,hf,hat⟩:=(h.le l1 fun _ _ g=>mS.le g l1).at_ i hi
 have hf0:=hf
 obtain ⟨_,_,_,_,_,_,_,_,_,_,_,_,ex⟩:=fQ hf
 have ex:=congrArg Array.toList (Value.agg.inj ex)
 dsimp only at ex
 subst ex
 have Uh:=CH hi
 have hss:Bd (cJ ls[i]):=(hs _ (List.getElem_mem hi)).can
 have YB:(cT (ls.take i)).length<100000000:=by
  have:=qP (ls.take i)
  rw [List.length_take] at this
  omega
 have Ui:∀q∈cT (ls.take i),Bd q:=fun q hq=>by
  obtain ⟨y,hy,rfl⟩:=List.mem_map.1 ((iL _).2 q |>.1 hq)
  exact (hs y (List.mem_of_mem_take hy)).can
 clear hg
 generalize cT (ls.take i)=O at *
 refine ⟨Bc ha,⟨by omega,by omega⟩,_,_,_,_,_,_,_,_,_,_,_,_,ad,ha,hat 0 _ rfl,hat 1 _ rfl,hat 2 _ rfl,hat 3 _ rfl,hat 4 _ rfl,hat 5 _ rfl,fun V2 l2=>(we (hf0.le l2)).mono ?_⟩
 generalize cJ ls[i]=x at *
 rintro r V3 l3 ⟨wv,bc,rfl,hq⟩
 have hq0:=hq
 obtain ⟨eb,ep,en,ec,fb,fp,fn,fe,gb,gp,gn,gc,rfl⟩:=fQ hq
 refine ⟨_,_,_,_,_,_,_,_,_,_,_,_,_,rfl,fun z _=>∃j:Nat,z=(j:Int)/\j<=O.length/\∀(i':Nat)(h:i'<O.length),i'<j->oq O[i'] x<0,fun z=>O.length-z.toNat,⟨0,by and_intros<;>rfl,0,rfl,Nat.zero_le _,fun i' _ h=>absurd h (Nat.not_lt_zero i')⟩,?_⟩
 rintro z V4 l4 ⟨j,rfl,Uy,jl⟩
 have wj:i64.wrap ((j:Int)+1)=((j+1:Nat):Int):=by rw [ar (by omega)];rfl
 rw [Int.toNat_natCast,wj]
 have dL:=l2.trans (l3.trans l4)
 refine ⟨rfl,fun z _=>z=true↔∃h:j<O.length,oq O[j] x<0,⟨fun hlt=>?_,fun hlt=>⟨false,by and_intros<;>rfl,?_⟩⟩,?_⟩
 ·have hlt:(j:Int)<(w1:Int):=of_decide_eq_true hlt
  have hj:j<O.length:=by omega
  obtain ⟨b1,p1,n1,c1,b2,p2,n2,c2,b3,p3,n3,c3,fB,Qe,hr⟩:=G_ fx hj
  refine ⟨⟨by omega,by omega⟩,fc,b1,p1,n1,c1,b2,p2,n2,c2,b3,p3,n3,c3,⟨fB,Qe⟩,fun V5 l5=>(rD (hr.le (dL.trans l5)) (hq0.le (l4.trans l5)) (Ui _ (List.getElem_mem hj)).HI hss.HI (by omega)).mono ?_⟩
  rintro r V6 l6 rfl
  exact ⟨_,rfl,_,by and_intros<;>rfl,by dsimp only;rw [decide_eq_true_eq];exact ⟨fun h=>⟨hj,h⟩,fun ⟨_,h⟩=>h⟩⟩
 ·have hlt:¬(j:Int)<(w1:Int):=of_decide_eq_false hlt
  exact ⟨(fun h=>nomatch h),fun ⟨h,_⟩=>absurd h (by omega)⟩
 rintro z V7 l7 Ux
 refine ⟨rfl,fun hz=>?_,fun hz=>?_⟩
 ·obtain ⟨hj,hx'⟩:=Ux.1 hz
  refine ⟨((j+1:Nat):Int),by dsimp only;omega,by and_intros<;>rfl,j+1,rfl,hj,fun i' h hi'=>?_⟩
  by_cases e:i'=j
  ·subst e;exact hx'
  ·exact jl i' h (by omega)
 have hge:∀h:j<O.length,¬oq O[j] x<0:=fun h h'=>by
  have:=Ux.2 ⟨h,h'⟩
  rw [hz] at this;cases this
 have hins:=Iy O j Uy jl hge
 have cR:=dL.trans l7
 refine ⟨fun z _=>z=true↔¬∃h:j<O.length,O[j]=x,⟨fun he=>⟨true,by and_intros<;>rfl,?_⟩,fun he=>?_⟩,?_⟩
 ·have he:(j:Int)=(w1:Int):=by simpa using he
  exact ⟨fun _ ⟨h,_⟩=>absurd h (by omega),fun _=>rfl⟩
 ·have he:¬(j:Int)=(w1:Int):=by simpa using he
  have hj:j<O.length:=by omega
  obtain ⟨b1,p1,n1,c1,b2,p2,n2,c2,b3,p3,n3,c3,fB,Qe,hr⟩:=G_ fx hj
  refine ⟨⟨by omega,by omega⟩,fc,b1,p1,n1,c1,b2,p2,n2,c2,b3,p3,n3,c3,⟨fB,Qe⟩,fun V8 l8=>(rD (hr.le (cR.trans l8)) (hq0.le (l4.trans (l7.trans l8))) (Ui _ (List.getElem_mem hj)).HI hss.HI (by omega)).mono ?_⟩
  rintro r V9 l9 rfl
  exact ⟨_,rfl,_,by and_intros<;>rfl,by dsimp only;rw [bne_iff_ne,ne_eq,H9];exact ⟨fun h ⟨_,h'⟩=>h h',fun h h'=>h ⟨hj,h'⟩⟩⟩
 rintro z gT l10 Nh
 have CV:=cR.trans l10
 refine ⟨rfl,fun hz gZ bJ bk hb J=>?_,fun hz=>?_⟩
 ·have hne:=Nh.1 hz
  rw [if_neg hne] at hins
  have Yx:=fx.fl (by decide)
  have Qg:=fx.le (V':=gZ) fun _ _ g=>mS.le g (CV.trans bJ)
  have hq12:=hq0.le (l4.trans (l7.trans (l10.trans bJ)))
  have t1:(us.take (j*6)).length=j*6:=by rw [List.length_take];omega
  have t2:((us.take (O.length*6)).drop (j*6)).length=(w1-j)*6:=by rw [List.length_drop,List.length_take,g1];omega
  have oc:∀v∈(us.take (O.length*6)).drop (j*6),v.oneCell'=true:=by
   intro v oW
   obtain ⟨m,hm,e⟩:=List.mem_iff_getElem.1 (List.mem_of_mem_drop oW)
   have hm':m<O.length*6:=by rw [List.length_take] at hm;omega
   have:=List.getElem?_eq_getElem hm
   rw [e,List.getElem?_take,if_pos hm'] at this
   exact lu fx (by decide) (fun _ _=>zH) hm' this
  have hmem:0<w2->us≠[]:=fun hw e=>by rw [e] at fv;simp at fv;omega
  have It:0<w2->mA bk w2=some ⟨bk,0,none⟩:=fun hw=>by unfold mA;rw [if_neg (by omega)]
  have at_:∀m v,m<O.length*6->us[m]?=some v->gZ.at ⟨bk,m,none⟩ v:=fun m v hm oW=>cO (hb (hmem (by omega))) oW
  refine ⟨⟨by omega,by omega⟩,⟨by omega,by omega⟩,⟨by omega,by omega⟩,(us.take (O.length*6)).drop (j*6),?_,t2,by omega,Nat.le_refl _,Nat.le_refl 6,t2,oc,fun bk2 J2 sp c' h1 h2=>?_⟩
  ·intro m v hm
   have hml:=(List.getElem?_eq_some_iff.1 hm).1
   rw [t2] at hml
   rw [List.getElem?_drop,List.getElem?_take,if_pos (by omega)] at hm
   have:=at_ (j*6+m) v (by omega) hm
   refine ⟨⟨bk,j*6,none⟩,?_,?_⟩
   ·unfold lU
    rw [if_neg (by omega),It (by omega)]
    simp [ah,add_zero']
   ·rw [←add_zero',tG,add_zero'];exact this
  ·have hrl:([.bool eb,.slice ep en ec,.bool fb,.slice fp fn fe,.bool gb,.slice gp gn gc]++(us.take (O.length*6)).drop (j*6):List Value).length=(1+(w1-j))*6:=by
    rw [List.length_append,t2];simp only [List.length_cons,List.length_nil];omega
   have hrt:ck (([.bool eb,.slice ep en ec,.bool fb,.slice fp fn fe,.bool gb,.slice gp gn gc]:List Value).take (1*6)++(us.take (O.length*6)).drop (j*6)++sp) 0 ((1+(w1-j))*6)=[.bool eb,.slice ep en ec,.bool fb,.slice fp fn fe,.bool gb,.slice gp gn gc]++(us.take (O.length*6)).drop (j*6):=by
    have e3:(([.bool eb,.slice ep en ec,.bool fb,.slice fp fn fe,.bool gb,.slice gp gn gc]:List Value).take (1*6))=[.bool eb,.slice ep en ec,.bool fb,.slice fp fn fe,.bool gb,.slice gp gn gc]:=rfl
    rw [e3]
    unfold ck
    rw [Nat.ble_eq_true_of_le (by rw [List.length_append,hrl];omega),cond_true,List.drop_zero,List.take_append_of_le_length (by rw [hrl];exact Nat.le_refl _),List.take_of_length_le (by rw [hrl];exact Nat.le_refl _)]
   have hr3:(1+(w1-j))*6 / 6=1+(w1-j):=Nat.mul_div_cancel _ (by decide)
   rw [hrt,hrl,hr3]
   refine ⟨us.take (j*6),?_,t1,Nat.le_refl _,?_,by omega,by omega,rfl,?_,fun sp2 c2' h3 h4=>⟨(j+(1+(w1-j)),c2',_,((i+1:Nat):Int)),by dsimp only;omega,by and_intros<;>first|rfl|omega,i+1,rfl,hi,?_⟩⟩
   ·intro m v hm
    have hml:=(List.getElem?_eq_some_iff.1 hm).1
    rw [t1] at hml
    rw [List.getElem?_take,if_pos hml] at hm
    exact ⟨⟨bk,0,none⟩,It (by omega),by rw [add_zero'];exact at_ m v (by omega) hm⟩
   ·intro hN
    by_cases hw:0<w2
    ·rw [It hw] at hN;cases hN
    ·omega
   ·intro v oW
    rcases List.mem_append.1 oW with oW|oW
    ·exact R0 v oW
    ·exact oc v oW
   ·show GR 6 mS _ _ _ _ (cT (ls.take (i+1)))
    rw [Uh,hins]
    refine ⟨?_,h3,?_,Df Qg Uy rfl hq12 (by decide)⟩
    ·show j+(1+(w1-j))=_
     rw [List.length_append,List.length_take,List.length_cons,List.length_drop]
     omega
    ·dsimp only
     rw [List.length_append,List.length_append,t1,hrl]
     omega
 ·have hex:∃h:j<O.length,O[j]=x:=Classical.byContradiction fun h=>by have:=Nh.2 h;rw [hz] at this;cases this
  rw [if_pos hex] at hins
  refine ⟨(w1,w2,us,((i+1:Nat):Int)),by dsimp only;omega,by and_intros<;>rfl,i+1,rfl,hi,?_⟩
  show GR 6 mS _ _ _ _ (cT (ls.take (i+1)))
  rw [Uh,hins]
  exact ⟨g1,fc,fv,fx.le fun _ _ g=>mS.le g CV⟩
theorem nN {V:View}{p:OA}{t:Tr}(h:RW V p t)(ha:t.jH Ff)(hs:t.size<=1000000):ab prog 18 #[.pointer p] V fun r V'=>∃q n c,r=.slice q n c/\nX 6 mS V' q n (cT t.qt):=by
 refine vN p V _ fun V1 l1=>(jM t (h.le l1) hs).mono ?_
 rintro r V2 l2 ⟨q,n,c,rfl,g⟩
 refine ⟨_,_,_,rfl,fun V3 l3=>(qK (g.le l3 fun _ _ g=>mS.le g l3) (by rw [k_];omega) fun l hl=>(ju ha l hl).2).mono ?_⟩
 rintro r V4 l4 ⟨q',m,e,rfl,g'⟩
 exact ⟨_,_,_,rfl,fun V5 l5=>⟨_,_,_,rfl,g'.le l5 fun _ _ g=>mS.le g l5⟩⟩
theorem zf {V:View}{p:OA}{n:Nat}{al:List L3}(h:nX 6 mS V p n al){i:Nat}(hi:i<al.length) :
  p.isSome=true/\∃(b1:Bool)(p1:OA)(n1 c1:Nat)(b2:Bool)(p2:OA)(n2 c2:Nat)(b3:Bool)(p3:OA)(n3 c3:Nat)(a:Addr),ah p (i*6)=some a/\V.at (a.add 0) (.bool b1)/\V.at (a.add 1) (.slice p1 n1 c1)/\V.at (a.add 2) (.bool b2)/\V.at (a.add 3) (.slice p2 n2 c2)/\V.at (a.add 4) (.bool b3)/\V.at (a.add 5) (.slice p3 n3 c3) /\
   mS V (.agg #[.bool b1,.slice p1 n1 c1,.bool b2,.slice p2 n2 c2,.bool b3,.slice p3 n3 c3]) al[i]:=by
 obtain ⟨ad,h0,xs,h1,h2,h3⟩:=h.at_ i hi
 have h20:=h2
 obtain ⟨_,_,_,_,_,_,_,_,_,_,_,_,e⟩:=fQ h2
 have e:=congrArg Array.toList (Value.agg.inj e)
 dsimp only at e
 subst e
 refine ⟨?_,_,_,_,_,_,_,_,_,_,_,_,_,ad,h0,h3 0 _ rfl,h3 1 _ rfl,h3 2 _ rfl,h3 3 _ rfl,h3 4 _ rfl,h3 5 _ rfl,h20⟩
 cases p with
 | none=>cases h0
 | some a=>rfl
theorem I_ {l m:L3}{k:Nat}(sl:yz k l)(sm:yz k m):Sz (20*k+20) (Pv l m)/\Sz (20*k+20) (Pw l m):=by
 unfold Pv Pw jN
 obtain ⟨a1,a2,a3⟩:=sl
 obtain ⟨b1,b2,b3⟩:=sm
 exact ⟨(Sz.mul ((a2.mul b3).sub (a3.mul b2)) (iV ((a1.mul b2).sub (a2.mul b1)))).mono (by omega),(Sz.mul ((a3.mul b1).sub (a1.mul b3)) (iV ((a1.mul b2).sub (a2.mul b1)))).mono (by omega)⟩
theorem uk {q:L3->Prop}(hq:∀l,q l->q (cJ l)){ls:List L3}(h:∀l∈ls,q l):∀l∈cT ls,q l:=fun l hl=>by
 obtain ⟨m,hm,rfl⟩:=List.mem_map.1 ((iL ls).2 l |>.1 hl)
 exact hq m (h m hm)
theorem KZ {l:L3}(h:Nz l):Nz (cJ l):=by
 unfold cJ
 split
 ·unfold Nz wK at *
  intro ⟨a,b⟩
  exact h ⟨by simpa using a,by simpa using b⟩
 ·exact h
theorem yQ {V:View}{tb:Nat}{lp:OA}{n c:Nat}{at_:Int}(hr:Eg V lp n)(hn:n<=400)(hw:lP V tb lp n c at_)(hx:V.X tb)(h0:0<=at_){q:OA}{t:Tr}(h:RW V q t)(ha:t.jH Ff)(hs:t.size<=1000) :
  ab prog 12 #[.pointer (some ⟨tb,0,none⟩),.pointer q] V fun r V'=>∃(p:Rat×Rat)(at':Int),RP V' r p.1 p.2/\Sz 60000 p.1/\Sz 60000 p.2/\0<=at'/\lP V' tb lp n c at':=by
 have hb:∀l∈cT t.qt,Bd l:=uk (fun _ h=>h.can) fun l hl=>(ju ha l hl).2
 have hz:∀l∈cT t.qt,Nz l:=uk (fun _ h=>KZ h) fun l hl=>K1 (ju ha l hl).1
 have hlen:(cT t.qt).length<=1000:=by have:=qP t.qt;rw [k_] at this;omega
 refine wW tb lp n c at_ q V _ hw hx fun V1 l1=>(nN (h.le l1) ha (by omega)).mono ?_
 rintro r V2 l2 ⟨ps,m,e,rfl,hL⟩
 generalize cT t.qt=L at *
 have hm:=hL.len
 subst hm
 have vU:=l1.trans l2
 have any:∀{W W':View} {bk:Nat} {a:Int},V.Le W->0<=a->lP W bk lp n c a->W.H bk->ab prog 43 #[.pointer (some ⟨bk,0,none⟩)] (W.au [bk]) fun r V'=>∃(x y:Rat)(at':Int),RP V' r x y/\Sz 10 x/\Sz 10 y/\0<=at'/\lP V' bk lp n c at':=fun {W _ bk a} lw a0 hw hh=>
  H3 (V:=W.au [bk]) (hr.le fun b o h=>lw b o h) hn hw ⟨by simp,hh⟩ a0
 refine ⟨_,_,_,rfl,fun g V3 l3 bk e1 e2=>(any (W':=V) (vU.trans l3) h0 e1 e2).mono ?_,fun g V6 l6 bk e1 e2=>?_⟩
 ·rintro r V4 l4 ⟨x,y,at',hp,sx,sy,t0,hw'⟩
  have hp0:=hp
  obtain ⟨_,_,_,_,_,_,_,_,_,_,_,_,rfl,-⟩:=hp
  exact ⟨_,_,_,_,_,_,_,_,_,_,_,_,_,_,rfl,_,_,_,_,hw',fun V5 l5 e5=>⟨(x,y),at',hp0.le fun b o h=>l5 b o h,sx.mono (by omega),sy.mono (by omega),t0,e5⟩⟩
 have g:0<L.length:=by
  have g:¬((L.length:Nat):Int)=0:=by simpa using g
  omega
 refine (jJ (V:=V6.au [bk]) (L.length:Int) (hr.le fun b o h=>l6 b o (vU b o h)) hn e1 ⟨by simp,e2⟩ h0 (by omega) (by omega)).mono ?_
 rintro r V7 l7 ⟨x,Fv,rfl,x0,x1,t1,hw1⟩
 obtain ⟨i,rfl⟩:∃i:Nat,x=i:=⟨x.toNat,by omega⟩
 have hi:i<L.length:=by omega
 have lY:V2.Le V7.shut:=fun b o h=>l7 b o (l6 b o h)
 obtain ⟨is,b1,p1,n1,c1,b2,p2,n2,c2,b3,p3,n3,c3,a,had,a0,a1,a2,a3,a4,a5,hl1⟩:=zf (hL.le lY fun _ _ g=>mS.le g lY) hi
 have sl1:=(hb _ (List.getElem_mem hi)).HI
 have W9:=hz _ (List.getElem_mem hi)
 generalize L[i]=A at *
 refine ⟨_,rfl,_,_,_,_,hw1,is,⟨by omega,by omega⟩,b1,p1,n1,c1,b2,p2,n2,c2,b3,p3,n3,c3,a,had,a0,a1,a2,a3,a4,a5,fun V8 l8 bk2 e3 e4=>(jJ (V:=V8.au [bk2]) 3 (hr.le fun b o h=>l8 b o (lY b o (vU b o h))) hn e3 ⟨by simp,e4⟩ t1 (by omega) (by omega)).mono ?_⟩
 rintro r V9 l9 ⟨y,at2,rfl,y0,y1,t2,hw2⟩
 have sZ:∀{W:View},V9.shut.Le W->V2.Le W:=fun l b o h=>l b o (l9 b o (l8 b o (lY b o h)))
 have UF:∀{W:View},V9.shut.Le W->V7.shut.Le W:=fun l b o h=>l b o (l9 b o (l8 b o h))
 refine ⟨_,rfl,_,_,_,_,hw2,fun g1 gT l10 HV e5 e6=>(jJ (V:=gT.au [HV]) (L.length:Int) (hr.le fun b o h=>sZ l10 b o (vU b o h)) hn e5 ⟨by simp,e6⟩ t2 (by omega) (by omega)).mono ?_,fun g1=>⟨fun g2 qz dW HV e5 e6=>(Qb (V:=qz.au [HV]) (hr.le fun b o h=>sZ dW b o (vU b o h)) hn e5 ⟨by simp,e6⟩ t2).mono ?_,fun g2 vT fZ HV e5 e6=>(any (W':=V) (vU.trans (sZ fZ)) t2 e5 e6).mono ?_⟩⟩
 ·rintro r gZ bJ ⟨z,at3,rfl,z0,z1,t3,hw3⟩
  obtain ⟨j,rfl⟩:∃j:Nat,z=j:=⟨z.toNat,by omega⟩
  have hj:j<L.length:=by omega
  have KQ:V2.Le gZ.shut:=fun b o h=>bJ b o (sZ l10 b o h)
  obtain ⟨is,b1',R4,n1',c1',b2',R5,RU,c2',b3',R6,RV,c3',a',QW,a0',a1',O8,a3',a4',VI,hl2⟩:=zf (hL.le KQ fun _ _ g=>mS.le g KQ) hj
  have sl2:=(hb _ (List.getElem_mem hj)).HI
  generalize L[j]=B at *
  have RJ:V7.shut.Le gZ.shut:=fun b o h=>bJ b o (UF l10 b o h)
  refine ⟨_,rfl,_,_,_,_,hw3,is,⟨by omega,by omega⟩,b1',R4,n1',c1',b2',R5,RU,c2',b3',R6,RV,c3',a',QW,a0',a1',O8,a3',a4',VI,fun lQ cw=>(K9 (hl1.le (RJ.trans cw)) (hl2.le cw) sl1 sl2 (by omega)).mono ?_⟩
  rintro r lD bU ⟨u,rfl,q0,q1⟩
  obtain ⟨s1,s2⟩:=I_ sl1 sl2
  by_cases hc:jN A B=0
  ·have:=q0 hc
   unfold Jl at this
   subst this
   refine ⟨_,_,_,_,_,_,_,_,_,_,_,_,_,_,_,rfl,fun h=>by simp [hc] at h,fun _ nD du Kh e7 e8=>(any (W':=V) (vU.trans (KQ.trans (cw.trans (bU.trans du)))) t3 e7 e8).mono ?_⟩
   rintro r mT dp ⟨x,y,at',hp,sx,sy,t0,hw'⟩
   have hp0:=hp
   obtain ⟨_,_,_,_,_,_,_,_,_,_,_,_,rfl,-⟩:=hp
   exact ⟨_,_,_,_,_,_,_,_,_,_,_,_,_,_,rfl,_,_,_,_,hw',fun V5 l5 e5=>⟨(x,y),at',hp0.le fun b o h=>l5 b o h,sx.mono (by omega),sy.mono (by omega),t0,e5⟩⟩
  ·have hp:=q1 hc
   have hp0:=hp
   obtain ⟨_,_,_,_,_,_,_,_,_,_,_,_,rfl,-⟩:=hp
   refine ⟨_,_,_,_,_,_,_,_,_,_,_,_,_,_,_,rfl,fun _ o_ dL e7=>⟨(Pv A B,Pw A B),at3,hp0.le dL,s1.mono (by omega),s2.mono (by omega),t3,e7⟩,fun h=>by simp [hc] at h⟩
 ·rintro r tC ea ⟨qq,at3,hq,sq,t3,hw3⟩
  have hq0:=hq
  obtain ⟨_,_,_,_,_,_,rfl⟩:=hq.shape
  refine ⟨_,_,_,_,_,_,_,rfl,_,_,_,_,hw3,fun Ar jf=>(SA (hl1.le fun b o h=>jf b o (ea b o (UF dW b o h))) (hq0.le fun b o h=>jf b o h) W9 sl1 (sq.mono (by omega)) (by omega)).mono ?_⟩
  rintro r tD eW hp
  have hp0:=hp
  obtain ⟨_,_,_,_,_,_,_,_,_,_,_,_,rfl,-⟩:=hp
  exact ⟨_,_,_,_,_,_,_,_,_,_,_,_,_,_,rfl,fun xo kZ e7=>⟨(Kd A qq,Ke A qq),at3,hp0.le kZ,(Lp sl1 (sq.mono (by omega))).mono (by omega),(Lq sl1 (sq.mono (by omega))).mono (by omega),t3,e7⟩⟩
 ·rintro r DG rL ⟨x,y,at',hp,sx,sy,t0,hw'⟩
  have hp0:=hp
  obtain ⟨_,_,_,_,_,_,_,_,_,_,_,_,rfl,-⟩:=hp
  exact ⟨_,_,_,_,_,_,_,_,_,_,_,_,_,_,rfl,_,_,_,_,hw',fun V5 l5 e5=>⟨(x,y),at',hp0.le fun b o h=>l5 b o h,sx.mono (by omega),sy.mono (by omega),t0,e5⟩⟩
end Go.Proofs.Tryz
