import Derived.Test.YthpmdmkmfoaamaaGreatDoorG14
import Derived.Test.YthpmdmkmfoaamaaGreatDoorG16
import Derived.Test.YthpmdmkmfoaamaaGreatDoorG8
import Derived.Test.YthpmdmkmfoaamaaGreatDoorG13
import Derived.Test.YthpmdmkmfoaamaaGreatDoorG15
import Derived.Test.YthpmdmkmfoaamaaGreatDoorG7
import Derived.Test.YthpmdmkmfoaamaaGreatDoorG9
set_option linter.unusedVariables false
open Go.IntKind (i64 u64 u32)
namespace Go.Proofs.Tryz
open Go.bK Go.fV
set_option maxHeartbeats 1000000 in
theorem tZ {V:View}{lb n c:Nat}{vs:List Value}{l:List (Rat×Rat)}(hw:V.w.heap[lb]?=some (.cells vs.toArray 108 (0,0)))(hx:V.X lb)(h:jg V n vs l)(hc:n<=c) :
  ab prog 152 #[.slice (some ⟨lb,0,none⟩) n c,.func (.func 153) #[] #[]] V fun r V'=>∃vs',r=.slice (some ⟨lb,0,none⟩) (fj eP l).length c/\V'.w.heap[lb]?=some (.cells vs'.toArray 108 (0,0))/\Row 6 kI V' vs' (fj eP l)/\vs'.length=vs.length:=by
 have ni:=h.ni
 have len:=h.len
 have hvl:=h.row.fl (by decide)
 refine kF lb n c vs V _ hw hx ⟨fun h2 V1 l1 hw1=>?_,fun h2=>⟨fun z V'=>∃k:Nat,z=((k+1:Nat):Int)/\k+1<=n/\fj eP (l.take (k+1))=l.take (k+1),fun z=>n-z.toNat,⟨1,by and_intros<;>rfl,0,rfl,by have:=of_decide_eq_false h2;omega,AV (by rw [List.length_take];omega)⟩,?_⟩⟩
 ·have h2:(n:Int)<2:=of_decide_eq_true h2
  have e:=AV (e:=eP) (l:=l) (by omega)
  rw [e,←len]
  exact ⟨vs,rfl,hw1,h.row.le fun _ _ g=>kI.le g l1,rfl⟩
 have h2:¬(n:Int)<2:=of_decide_eq_false h2
 rintro z V2 l2 ⟨k,rfl,hk,hcm⟩
 have hs2:=h.le l2
 refine ⟨rfl,fun hlt=>?_,fun hlt V9 l9 RX=>?_⟩
 rotate_left
 ·have hlt:¬((k+1:Nat):Int)<n:=of_decide_eq_false hlt
  have e:l.take (k+1)=l:=List.take_of_length_le (by omega)
  rw [e] at hcm
  rw [hcm,←len]
  exact ⟨vs,rfl,RX,h.row.le fun _ _ g=>kI.le g (l2.trans l9),rfl⟩
 have hlt:((k+1:Nat):Int)<n:=of_decide_eq_true hlt
 have w1:i64.wrap (((k+1:Nat):Int)-1)=(k:Int):=by rw [ar (by omega)];omega
 have w2:i64.wrap (((k+1:Nat):Int)+1)=((k+1+1:Nat):Int):=by rw [ar (by omega)];rfl
 rw [w1,w2,Int.toNat_natCast,Int.toNat_natCast]
 obtain ⟨x1,y1,p1,fI,fJ,fH,g1,r1⟩:=hs2.get (k:=k+1) (by omega)
 obtain ⟨x2,y2,p2,gK,gL,gH,g2,r2⟩:=hs2.get (k:=k) (by omega)
 refine ⟨⟨by omega,hlt⟩,x1,y1,p1,fI,fJ,fH,g1,⟨by omega,by omega⟩,x2,y2,p2,gK,gL,gH,g2,fun V3 l3=>(FQ (r1.le l3) (r2.le l3)).mono ?_⟩
 rintro r V4 l4 rfl
 have step:=nf (e:=eP) (d:=bo) (l:=l) (k:=k) (by omega)
 refine ⟨_,rfl,fun he=>⟨⟨by omega,by omega⟩,?_⟩,fun he=>⟨((k+1+1:Nat):Int),by dsimp only;omega,by and_intros<;>rfl,k+1,rfl,by omega,?_⟩⟩
 rotate_left
 ·have he':eP (l.getD (k+1) bo) (l.getD k bo)=false:=he
  rw [step,hcm,he']
  show l.take (k+1)++[_]=_
  have hi:k+1<l.length:=by omega
  rw [show l.getD (k+1) bo=l[k+1] by rw [List.getD_eq_getElem?_getD,List.getElem?_eq_getElem hi];rfl,List.take_append_getElem hi]
 have he':eP (l.getD (k+1) bo) (l.getD k bo)=true:=he
 have pg:=l3.trans l4
 have so:∀{m:Nat},m<c->zN 0 c m 6=m*6:=fun hm=>by unfold zN;rw [if_neg (by omega),Nat.zero_add]
 refine ⟨fun z V'=>∃(q t:Nat)(m:List (Rat×Rat)),z.1=(q:Int)/\z.2.1=((t+1:Nat):Int)/\q<=k+1+t/\k+1+t+1<=n/\jg V' n z.2.2 m/\z.2.2.length=vs.length/\(∀i,k+1+t<=i->m.getD i bo=l.getD i bo)/\m.take q=fj eP (l.take (k+1+t+1)),fun z=>n-z.2.1.toNat,
  ⟨(((k+1:Nat):Int),1,vs),by and_intros<;>rfl,k+1,0,l,rfl,rfl,by omega,by omega,h.le (l2.trans pg),rfl,fun i _=>rfl,?_⟩,?_⟩
 ·rw [Nat.add_zero,step,he',if_pos rfl,List.append_nil,hcm]
 rintro ⟨zq,zt,us⟩ V5 l5 ⟨q,t,m,e1,e2,hq,ht,hs,Ix,hm,Ma⟩
 dsimp only at e1 e2 hs Ix
 subst e1 e2
 dsimp only
 have ml:=hs.len
 have Y1:=hs.row.fl (by decide)
 refine ⟨rfl,fun hlt2=>?_,fun hlt2=>?_⟩
 ·have hlt2:((t+1:Nat):Int)<((n-(k+1):Nat):Int):=of_decide_eq_true hlt2
  have w3:i64.wrap (((t+1:Nat):Int)-1)=(t:Int):=by rw [ar (by omega)];omega
  have w4:i64.wrap (((t+1:Nat):Int)+1)=((t+1+1:Nat):Int):=by rw [ar (by omega)];rfl
  have w5:i64.wrap ((q:Int)+1)=((q+1:Nat):Int):=by rw [ar (by omega)];rfl
  rw [w3,w4,w5,Int.toNat_natCast,Int.toNat_natCast,Int.toNat_natCast,so (by omega)]
  obtain ⟨x1,y1,p1,fI,fJ,fH,g1,r1⟩:=hs.get (k:=k+1+(t+1)) (by omega)
  obtain ⟨x2,y2,p2,gK,gL,gH,g2,r2⟩:=hs.get (k:=k+1+t) (by omega)
  have a1:(k+1)*6+(t+1)*6=0+(k+1+(t+1))*6:=by omega
  have a2:(k+1)*6+t*6=0+(k+1+t)*6:=by omega
  rw [a1,a2]
  rw [hm _ (by omega)] at r1
  rw [hm _ (by omega)] at r2
  refine ⟨⟨by omega,hlt2⟩,x1,y1,p1,fI,fJ,fH,g1,⟨by omega,by omega⟩,x2,y2,p2,gK,gL,gH,g2,fun V6 l6=>(FQ (r1.le l6) (r2.le l6)).mono ?_⟩
  rintro r V7 l7 rfl
  have Sa:=l6.trans l7
  have step2:=nf (e:=eP) (d:=bo) (l:=l) (k:=k+1+t) (by omega)
  refine ⟨_,rfl,fun hn=>⟨⟨by omega,hlt2⟩,x1,y1,p1,fI,fJ,fH,g1,⟨by omega,by omega⟩,by omega,(((q+1:Nat):Int),((t+1+1:Nat):Int),_),by dsimp only;omega,by and_intros<;>rfl,q+1,t+1,m.set q (l.getD (k+1+(t+1)) bo),rfl,rfl,by omega,by omega,?_,?_,fun i hi=>?_,?_⟩,fun hn=>⟨(((q:Nat):Int),((t+1+1:Nat):Int),us),by dsimp only;omega,by and_intros<;>rfl,q,t+1,m,rfl,rfl,by omega,by omega,hs.le Sa,Ix,fun i hi=>hm i (by omega),?_⟩⟩
  ·refine ⟨?_,by rw [List.length_set];exact ml,by rw [List.length_set];exact hs.ni⟩
   have:=(hs.le Sa).row.put (i:=q) (by omega) (by decide) (xs:=[.int .i64 x1,.int .i64 y1,.pointer p1,.int .i64 fI,.int .i64 fJ,.pointer fH]) rfl (r1.le Sa)
   dsimp only
   rw [Nat.zero_add]
   exact this
  ·exact (jG (vs:=us) (xs:=[.int .i64 x1,.int .i64 y1,.pointer p1,.int .i64 fI,.int .i64 fJ,.pointer fH]) (o:=0+q*6) (by show 0+q*6+6<=_;omega)).trans Ix
  ·rw [List.getD_eq_getElem?_getD,List.getElem?_set_ne (by omega),←List.getD_eq_getElem?_getD]
   exact hm i (by omega)
  ·have hn1:eP (l.getD (k+1+(t+1)) bo) (l.getD (k+1+t) bo)=false:=by simpa using hn
   have hn':eP (l.getD (k+1+t+1) bo) (l.getD (k+1+t) bo)=false:=hn1
   have hi:q<m.length:=by omega
   rw [show k+1+(t+1)+1=k+1+t+2 from rfl,step2,hn',←Ma,if_neg (by decide)]
   rw [List.take_set,List.take_add_one,List.getElem?_eq_getElem hi,show (some m[q]).toList=[m[q]] from rfl]
   rw [List.set_append_right _ _ (by rw [List.length_take];omega),List.length_take,Nat.min_eq_left (by omega),Nat.sub_self]
   rfl
  ·have hn1:eP (l.getD (k+1+(t+1)) bo) (l.getD (k+1+t) bo)=true:=by simpa using hn
   have hn':eP (l.getD (k+1+t+1) bo) (l.getD (k+1+t) bo)=true:=hn1
   rw [show k+1+(t+1)+1=k+1+t+2 from rfl,step2,hn',if_pos rfl,List.append_nil,Ma]
 ·have hlt2:¬((t+1:Nat):Int)<((n-(k+1):Nat):Int):=of_decide_eq_false hlt2
  have hl:l.take (k+1+t+1)=l:=List.take_of_length_le (by omega)
  rw [hl] at Ma
  have YV:q<n:=by
   have:=Ic (e:=eP) (d:=bo) (l:=l) (k:=k) (by omega) he'
   rw [←Ma,List.length_take] at this
   omega
  rw [Int.toNat_natCast,so (by omega)]
  have hz:q*6+(n-q)*6=n*6:=by rw [←Nat.add_mul];congr 1;omega
  rw [hz]
  refine ⟨⟨by omega,by omega⟩,by omega,⟨by omega,by omega⟩,fun V8 l8 hw8=>⟨_,?_,hw8,?_,?_⟩⟩
  ·rw [←Ma,List.length_take,Nat.min_eq_left (by omega)]
  ·rw [←Ma,List.append_assoc]
   exact (hs.row.le fun _ _ g=>kI.le g l8).H9 (by omega) (by decide)
  ·simp only [List.length_append,List.length_take,List.length_drop,nE,List.length_flatten,List.map_replicate,List.sum_replicate_nat,List.length_cons,List.length_nil]
   omega
theorem ot {V:View}:ab prog 152 #[.slice none 0 0,.func (.func 153) #[] #[]] V fun r V'=>r=.slice none 0 0:=
 il V _ ⟨fun _ V1 l1=>rfl,fun h=>absurd (of_decide_eq_false h) (by decide)⟩
def tL (n c:Nat)(l:List (Rat×Rat)):Prop:=∀(V:View)(lb:Nat)(vs:List Value),V.w.heap[lb]?=some (.cells vs.toArray 108 (0,0))->V.X lb->jg V n vs l ->
 ab prog 150 #[.slice (some ⟨lb,0,none⟩) n c,.func (.func 151) #[] #[]] V fun r V'=>r=.tuple #[]/\∃vs' l',V'.w.heap[lb]?=some (.cells vs'.toArray 108 (0,0))/\jg V' n vs' l'/\l'.Perm l/\l'.Pairwise fun x y=>¬dq y x<0
theorem Lz (n c:Nat)(l:List (Rat×Rat)):tL n c l:=fun _ _ _ hw hx h=>AD hw hx h
theorem LA (n c:Nat)(l:List (Rat×Rat))(h12:l.length<=12):tL n c l:=by
 intro V lb vs hw hx h
 have ni:=h.ni
 have len:=h.len
 have w:u64.wrap (n:Int)=n:=aL (by omega)
 refine gJ lb n c vs V _ hw hx ?_
 rw [w]
 refine fun V1 l1=>(kM n (by omega)).mono ?_
 rintro r V2 l2 rfl
 have pdq:∀{W:View} {bk:Nat},W.w.heap[bk]?=some (.cells vs.toArray 108 (0,0))->W.X bk->jg W n vs l->ab prog 187 #[.slice (some ⟨bk,0,none⟩) n c,.int .i64 0,.int .i64 (n:Int),.int .i64 (bh n:Int),.func (.func 151) #[] #[]] W fun r V'=>r=.tuple #[]/\kK bk n l 0 n V' fun l'=>pk dq bo l' 0 n:=by
  intro W bk hw hx h
  refine dJ bk n c vs 0 n (bh n:Int) W _ hw hx ⟨fun z V'=>z.1=0/\z.2.1=(n:Int)/\jg V' n z.2.2.2.2.2 l,fun _=>0,⟨(0,(n:Int),(bh n:Int),true,true,vs),by and_intros<;>rfl,rfl,rfl,h⟩,?_⟩
  rintro ⟨z1,z2,D5,wb,wp,us⟩ V1 l1 ⟨e1,e2,hs⟩
  dsimp only at e1 e2 hs
  subst e1 e2
  dsimp only
  have w0:i64.wrap ((n:Int)-0)=(n:Int):=by rw [ar (by omega)];omega
  rw [w0]
  refine ⟨rfl,fun _ V2 l2 bk e2 h2=>(kg (V:=V2.au [bk]) e2 ⟨by simp,h2⟩ (hs.le l2) (a:=0) (b:=n) (by omega) (by omega)).mono ?_,fun h12=>by have:=of_decide_eq_false h12;omega⟩
  rintro r V3 l3 ⟨rfl,ws,m',e3,hs3,S5,Qe⟩
  exact ⟨rfl,ws,e3,fun V4 l4 hw4=>⟨rfl,ws,m',hw4,hs3.le fun b o h=>l4 b o h,S5,Qe⟩⟩
 refine ⟨_,rfl,fun V3 l3 bk e3 h3=>(pdq (W:=V3.au [bk]) e3 ⟨by simp,h3⟩ (h.le fun b o h=>l3 b o (l2 b o (l1 b o h)))).mono ?_⟩
 rintro r V4 l4 ⟨rfl,vs',l',e4,hs4,sg,Ao⟩
 refine ⟨rfl,vs',e4,fun V5 l5 RV=>⟨rfl,vs',l',RV,hs4.le fun b o h=>l5 b o h,sg.perm,?_⟩⟩
 have sl:=sg.len
 refine List.pairwise_iff_getElem.2 fun i j hi hj wL=>?_
 have:=Ao i j (by omega) wL (by omega)
 rw [List.getD_eq_getElem?_getD,List.getD_eq_getElem?_getD,List.getElem?_eq_getElem hi,List.getElem?_eq_getElem hj] at this
 simp only [Option.getD_some] at this
 exact this
theorem row_one {α:Type}{sz:Nat}{R:View->Value->α->Prop}{V:View}{xs:List Value}{a:α}(hx:xs.length=sz)(ha:R V (.agg xs.toArray) a):Row sz R V xs [a]:=by
 refine ⟨fun i hi=>?_⟩
 obtain rfl:i=0:=by simpa using hi
 exact ⟨xs,hx,ha,fun j x hj=>by rw [Nat.zero_mul,Nat.zero_add];exact hj⟩
theorem Dm {α:Type}{sz:Nat}{R:View->Value->α->Prop}{V:View}{vs:List Value}{ls:List α}(h:Row sz R V vs ls){k:Nat}(hk:k<=ls.length){xs sp:List Value}{a:α}(hx:xs.length=sz)(ha:R V (.agg xs.toArray) a)(hs:0<sz) :
  Row sz R V (vs.take (k*sz)++(xs++(vs.take (ls.length*sz)).drop (k*sz))++sp) (ls.take k++a::ls.drop k):=by
 have hl:=h.fl hs
 have hks:k*sz<=ls.length*sz:=Nat.mul_le_mul_right _ hk
 have t1:(vs.take (k*sz)).length=k*sz:=by rw [List.length_take];omega
 have t2:((vs.take (ls.length*sz)).drop (k*sz)).length=ls.length*sz-k*sz:=by rw [List.length_drop,List.length_take];omega
 have a1:(ls.take k).length=k:=by rw [List.length_take];omega
 refine ⟨fun i hi=>?_⟩
 rw [List.append_assoc]
 by_cases c1:i<k
 ·have hi':i<ls.length:=by omega
  obtain ⟨ys,y1,y2,y3⟩:=h.at_ i hi'
  have e:(ls.take k++a::ls.drop k)[i]=ls[i]:=by rw [List.getElem_append_left (by omega),List.getElem_take]
  refine ⟨ys,y1,by rw [e];exact y2,fun j x hj=>?_⟩
  have hj':=(List.getElem?_eq_some_iff.1 hj).1
  have hlt:i*sz+j<k*sz:=by
   have:(i+1)*sz<=k*sz:=Nat.mul_le_mul_right _ c1
   rw [Nat.succ_mul] at this
   omega
  rw [List.getElem?_append_left (by omega),List.getElem?_take,if_pos hlt]
  exact y3 j x hj
 ·by_cases c2:i=k
  ·subst c2
   have e:(ls.take i++a::ls.drop i)[i]=a:=by
    rw [List.getElem_append_right (by omega)]
    simp [a1]
   refine ⟨xs,hx,by rw [e];exact ha,fun j x hj=>?_⟩
   have hj':=(List.getElem?_eq_some_iff.1 hj).1
   rw [List.getElem?_append_right (by omega),t1,Nat.add_sub_cancel_left,List.append_assoc,List.getElem?_append_left hj']
   exact hj
  ·have hi':i-1<ls.length:=by
    rw [List.length_append,a1,List.length_cons,List.length_drop] at hi
    omega
   obtain ⟨ys,y1,y2,y3⟩:=h.at_ (i-1) hi'
   have e:(ls.take k++a::ls.drop k)[i]=ls[i-1]:=by
    rw [List.getElem_append_right (by omega)]
    obtain ⟨m,hm⟩:∃m,i=k+(m+1):=⟨i-k-1,by omega⟩
    subst hm
    simp only [a1,Nat.add_sub_cancel_left,List.getElem_cons_succ,List.getElem_drop]
    congr 1
   refine ⟨ys,y1,by rw [e];exact y2,fun j x hj=>?_⟩
   have hj':=(List.getElem?_eq_some_iff.1 hj).1
   obtain ⟨m,hm⟩:∃m,i=k+1+m:=⟨i-k-1,by omega⟩
   subst hm
   have e1:(k+1+m)*sz=k*sz+sz+m*sz:=by rw [Nat.add_mul,Nat.add_mul,Nat.one_mul]
   have e2:(k+1+m-1)*sz=k*sz+m*sz:=by rw [show k+1+m-1=k+m by omega,Nat.add_mul]
   have:=y3 j x hj
   rw [e2] at this
   have hlt:k*sz+m*sz+j<ls.length*sz:=by
    have:(k+m+1)*sz<=ls.length*sz:=Nat.mul_le_mul_right _ (by omega)
    rw [Nat.add_mul,Nat.add_mul,Nat.one_mul] at this
    omega
   rw [List.getElem?_append_right (by omega),t1,List.append_assoc,List.getElem?_append_right (by omega),hx,List.getElem?_append_left (by omega),List.getElem?_drop,List.getElem?_take,if_pos (by omega)]
   rw [show k*sz+((k+1+m)*sz+j-k*sz-sz)=k*sz+m*sz+j by omega]
   exact this
theorem yl {α:Type}{sz:Nat}{R:View->Value->α->Prop}{V:View}{p:OA}{n:Nat}{ls:List α}(h:og sz R V p n ls)(hs:0<sz):∃xs:List Value,V.sl p xs/\xs.length=ls.length*sz/\Row sz R V xs ls:=by
 have step:∀k,k<=ls.length->∃xs:List Value,V.sl p xs/\xs.length=k*sz/\Row sz R V xs (ls.take k):=by
  intro k
  induction k with
  | zero=>exact fun _=>⟨[],fun i v hv=>by simp at hv,by simp,by rw [List.take_zero];exact Row.nil⟩
  | succ k ih=>
   intro hk
   obtain ⟨xs,x1,x2,x3⟩:=ih (by omega)
   obtain ⟨ad,ha,ys,y1,y2,y3⟩:=h.at_ k (by omega)
   have hl:(ls.take k).length=k:=by rw [List.length_take];omega
   refine ⟨xs++ys,fun i v hv=>?_,by rw [List.length_append,x2,y1,Nat.succ_mul],?_⟩
   ·by_cases c:i<xs.length
    ·rw [List.getElem?_append_left c] at hv;exact x1 i v hv
    ·rw [List.getElem?_append_right (by omega)] at hv
     cases p with
     | none=>cases ha
     | some a=>
      obtain rfl:=Option.some.inj (show some (a.add (k*sz))=some ad from ha)
      have:=y3 _ v hv
      rw [tP,x2] at this
      rw [show k*sz+(i-k*sz)=i by omega] at this
      exact ⟨a,rfl,this⟩
   ·have:=x3.snoc (sp:=[]) y1 y2 hs
    rw [hl,List.append_nil,List.take_of_length_le (by omega)] at this
    rw [List.take_add_one,List.getElem?_eq_getElem (by omega)]
    exact this
 obtain ⟨xs,x1,x2,x3⟩:=step ls.length (Nat.le_refl _)
 rw [List.take_length] at x3
 exact ⟨xs,x1,x2,x3⟩
theorem oK {α:Type}{sz:Nat}{R:View->Value->α->Prop}{V:View}{vs xs sp:List Value}{ls ms:List α}(h:Row sz R V vs ls)(h':Row sz R V xs ms)(hs:0<sz):Row sz R V (vs.take (ls.length*sz)++xs++sp) (ls++ms):=by
 have hl:=h.fl hs
 have hl':=h'.fl hs
 have ht:(vs.take (ls.length*sz)).length=ls.length*sz:=by rw [List.length_take];omega
 refine ⟨fun i hi=>?_⟩
 by_cases c:i<ls.length
 ·obtain ⟨ys,y1,y2,y3⟩:=h.at_ i c
  refine ⟨ys,y1,by rw [List.getElem_append_left c];exact y2,fun j x hj=>?_⟩
  have hj':=(List.getElem?_eq_some_iff.1 hj).1
  have hlt:i*sz+j<ls.length*sz:=by
   have:(i+1)*sz<=ls.length*sz:=Nat.mul_le_mul_right _ c
   rw [Nat.succ_mul] at this
   omega
  rw [List.append_assoc,List.getElem?_append_left (by omega),List.getElem?_take,if_pos hlt]
  exact y3 j x hj
 ·rw [List.length_append] at hi
  obtain ⟨m,rfl⟩:∃m,i=ls.length+m:=⟨i-ls.length,by omega⟩
  have hm:m<ms.length:=by omega
  obtain ⟨ys,y1,y2,y3⟩:=h'.at_ m hm
  refine ⟨ys,y1,?_,fun j x hj=>?_⟩
  ·have e:(ls++ms)[ls.length+m]=ms[m]:=by rw [List.getElem_append_right (by omega)];simp
   rw [e];exact y2
  ·have hj':=(List.getElem?_eq_some_iff.1 hj).1
   have hlt:m*sz+j<xs.length:=by
    have:(m+1)*sz<=ms.length*sz:=Nat.mul_le_mul_right _ hm
    rw [Nat.succ_mul] at this
    omega
   rw [List.append_assoc,List.getElem?_append_right (by rw [ht,Nat.add_mul];omega),ht,Nat.add_mul,List.getElem?_append_left (by omega)]
   rw [show ls.length*sz+m*sz+j-ls.length*sz=m*sz+j by omega]
   exact y3 j x hj
theorem lC {α:Type}{sz:Nat}{R:View->Value->α->Prop}{V:View}{vs:List Value}{al:List α}(h:Row sz R V vs al)(hs:0<sz)(hc:∀xs a,R V (.agg (List.toArray xs)) a->∀v∈xs,v.oneCell'=true){m:Nat}(hm:m<al.length*sz){v:Value}(hv:vs[m]?=some v):v.oneCell'=true:=by
 have hi:m / sz<al.length:=Nat.div_lt_of_lt_mul (by rw [Nat.mul_comm];exact hm)
 obtain ⟨xs,hl,hx,hat⟩:=h.at_ (m / sz) hi
 have hlt:m%sz<xs.length:=by rw [hl];exact Nat.mod_lt _ hs
 have e3:m=m / sz*sz+m%sz:=by rw [Nat.mul_comm];exact (Nat.div_add_mod m sz).symm
 have:=hat (m%sz) _ (List.getElem?_eq_getElem hlt)
 rw [←e3,hv] at this
 obtain rfl:=Option.some.inj this
 exact hc xs _ hx _ (List.getElem_mem hlt)
theorem yR {V:View}{lb n c:Nat}{vs:List Value}{o:List (Rat×Rat)}(hw:vs≠[]->V.w.heap[lb]?=some (.cells vs.toArray 108 (0,0)))(hx:vs≠[]->V.X lb)(hg:GR 6 kI V n c vs o)(hpos:vs≠[]->0<n)(hs:o.length<50)(hso:tL n c o) :
  ab prog 100 #[.slice (mA lb c) n c] V fun r V'=>∃(bm:Nat)(vm:List Value)(n' c':Nat)(m:List (Rat×Rat)),(vm≠[]->V'.w.heap[bm]?=some (.cells vm.toArray 108 (0,0)))/\(vm≠[]->V.w.heap.size<=bm\/(vs≠[]/\bm=lb)) /\
   r=.slice (mA bm c') n' c'/\Row 6 kI (V'.cf (vm≠[]) bm) vm (fj eP m)/\n'=(fj eP m).length/\n'<=c'/\m.Perm o/\m.Pairwise fun x y=>¬dq y x<0:=by
 have Me:∀{A B:Prop},A\/B\/False->A\/B:=fun h=>h.imp id fun h=>h.elim id False.elim
 have hcap:=hg.cap
 have hle:=hg.le
 have hlen:=hg.len
 refine qz lb n c vs V _ hw hx ⟨fun hz=>?_,fun hz V6 l6 Pq f1 f2=>?_⟩
 ·subst hz
  have c0:c=0:=by simp at hcap;omega
  subst c0
  have n0:n=0:=by omega
  subst n0
  have hnil:o=[]:=List.length_eq_zero_iff.1 hlen.symm
  refine ⟨rfl,fun V1 l1=>sE.mono ?_⟩
  rintro r V2 l2 rfl
  refine ⟨rfl,fun V3 l3 YL e1 e2=>ot.mono ?_⟩
  rintro r V4 l4 rfl
  refine ⟨0,[],fun h=>absurd rfl h,fun h=>absurd rfl h,none,0,0,rfl,fun V5 ME hl e3 e4=>⟨ME,[],0,0,[],fun h=>absurd rfl h,fun h=>absurd rfl h,rfl,Row.nil,rfl,Nat.le_refl _,?_,List.Pairwise.nil⟩⟩
  rw [hnil]
 ·have hn0:=hpos hz
  have hc0:c≠0:=by omega
  have It:∀b,mA b c=some ⟨b,0,none⟩:=fun b=>by unfold mA;rw [if_neg hc0]
  rw [It]
  refine (hso (V6.au [vb vs V6.w.heap.size Pq]) Pq vs (f1 hz) ⟨by simp [vB hz],f2 hz⟩ ⟨hg.row.le fun _ _ g=>kI.le g fun b o h=>l6 b o h,hlen,hs⟩).mono ?_
  rintro r V7 l7 ⟨rfl,vs',m,e3,sr,pm,pw⟩
  have N2:=pm.length_eq
  have ES:vs'≠[]:=fun e=>by
   have:=sr.row.fl (by decide)
   rw [e,N2,←hlen] at this
   simp at this
   omega
  refine ⟨rfl,hz,vs',ES,e3,fun V8 l8 Jw g1 g2=>?_⟩
  rw [It]
  refine ab.N4 (tZ (V:=V8.au [vb vs' V8.w.heap.size Jw]) (lb:=Jw) (vs:=vs') (l:=m) (g1 ES) ⟨by simp [vB ES],g2 ES⟩ (sr.le fun b o h=>l8 b o h) hle) ?_
  rintro r V9 l9 hH ⟨ws,rfl,e4,row,wl⟩
  have hk:=uk (e:=eP) (l:=m)
  refine ⟨Jw,ws,fun _=>e4,fun _=>.inr ⟨ES,rfl⟩,some ⟨Jw,0,none⟩,(fj eP m).length,c,by rw [It],fun g_ Qk hl k1 k2=>⟨Qk,ws,_,c,m,k1,fun h=>Me (k2 h),rfl,?_,rfl,by omega,pm,pw⟩⟩
  exact row.le fun _ _ g=>kI.le g ((Gq fun _=>hH Jw (g2 ES)).trans hl)
def Ct (k:Nat)(V:View)(v:Value)(c:Rat×Rat):Prop:=lS V v c.1 c.2/\Sz k c.1/\Sz k c.2
theorem Ct.le {k:Nat}{V V':View}{v:Value}{c:Rat×Rat}(h:Ct k V v c)(l:V.Le V'):Ct k V' v c:=⟨h.1.le l,h.2⟩
theorem JV {a b:Int}{p:OA}{c d:Int}{q:OA}:∀v∈([.int .i64 a,.int .i64 b,.pointer p,.int .i64 c,.int .i64 d,.pointer q]:List Value),v.oneCell'=true:=by
 intro v hm
 simp only [List.mem_cons,List.not_mem_nil,or_false] at hm
 rcases hm with rfl|rfl|rfl|rfl|rfl|rfl<;>rfl
theorem zm {k:Nat}{V:View}{p:OA}{n:Nat}{al:List (Rat×Rat)}(h:og 6 (Ct k) V p n al){i:Nat}(hi:i<al.length) :
  p.isSome=true/\∃(x y:Int)(q:OA)(x' y':Int)(q':OA)(a:Addr),ah p (i*6)=some a/\V.at (a.add 0) (.int .i64 x)/\V.at (a.add 1) (.int .i64 y)/\V.at (a.add 2) (.pointer q)/\V.at (a.add 3) (.int .i64 x')/\V.at (a.add 4) (.int .i64 y')/\V.at (a.add 5) (.pointer q') /\
   Ct k V (.agg #[.int .i64 x,.int .i64 y,.pointer q,.int .i64 x',.int .i64 y',.pointer q']) al[i]:=by
 obtain ⟨ad,h0,xs,h1,h2,h3⟩:=h.at_ i hi
 have h20:=h2
 obtain ⟨⟨x,y,q,x',y',q',e,-⟩,-⟩:=h2
 have e:=congrArg Array.toList (Value.agg.inj e)
 dsimp only at e
 subst e
 refine ⟨?_,x,y,q,x',y',q',ad,h0,h3 0 _ rfl,h3 1 _ rfl,h3 2 _ rfl,h3 3 _ rfl,h3 4 _ rfl,h3 5 _ rfl,h20⟩
 cases p with
 | none=>cases h0
 | some a=>rfl
def vu (u w:Rat×Rat):Rat×Rat:=if ay.cr u w>0 then (u.1+w.1,u.2+w.2) else (-u.2,u.1)
def jF (D:List (Rat×Rat)):List (Rat×Rat):=if D=[] then [(1,0)] else ay.Hi vu D
theorem Hv:Sz 1 (0:Rat):=by unfold Sz;decide
theorem mI:Sz 300000 (0:Rat):=Hv.mono (by omega)
theorem E8 {f:Rat×Rat->Rat×Rat->Rat×Rat}{D:List (Rat×Rat)}:ay.Hi f D=(List.range D.length).map fun i=>f (D.getD i (0,0)) (D.getD ((i+1)%D.length) (0,0)):=rfl
theorem Ey {V:View}{p:OA}{n c:Nat}{D:List (Rat×Rat)}(h:og 6 (Ct 100000) V p n D)(hn:D.length<=1000000) :
  ab prog 99 #[.slice p n c] V fun r V'=>∃q n' c',r=.slice q n' c'/\og 6 (Ct 300000) V' q n' (jF D):=by
 have hl:=h.len
 subst hl
 refine vJ p D.length c V _ ⟨fun h0 V1 l1=>(kO 1 (by omega) (by omega)).mono ?_,fun h0=>⟨fun z V'=>∃i:Nat,z.2.2.2=(i:Int)/\i<=D.length/\GR 6 (Ct 300000) V' z.1 z.2.1 z.2.2.1 ((List.range i).map fun i=>vu (D.getD i (0,0)) (D.getD ((i+1)%D.length) (0,0))),fun z=>(D.length-z.2.2.2).toNat,⟨(0,0,[],0),by and_intros<;>rfl,0,rfl,Nat.zero_le _,GR.nil⟩,?_⟩⟩
 ·have h0:D=[]:=List.length_eq_zero_iff.1 (by have:=(beq_iff_eq.1 h0);omega)
  rintro r V2 l2 g
  have g0:=g
  obtain ⟨a,b,q,rfl⟩:=g.shape
  refine ⟨_,_,_,rfl,fun V3 l3 bk hb=>⟨_,1,1,rfl,?_⟩⟩
  unfold jF
  rw [if_pos h0]
  refine og.zo hb (row_one rfl ⟨⟨_,_,_,_,_,_,rfl,g0.le l3,?_⟩,?_,mI⟩)
  ·exact RR.zero _
  ·exact (zQ).mono (by omega)
 ·have h0:D.length≠0:=fun e=>by rw [e] at h0;cases h0
  rintro ⟨n1,c1,vs1,z⟩ V4 l4 ⟨i,e,hi,g⟩
  dsimp only at e g ⊢
  subst e
  have gl:=g.len
  have Wt:n1=i:=by rw [gl];simp
  refine ⟨rfl,fun hlt=>?_,fun hlt lU cd bk hb=>?_⟩
  ·have hlt:i<D.length:=by have:=of_decide_eq_true hlt;omega
   have w1:i64.wrap ((i:Int)+1)=((i+1:Nat):Int):=by rw [ar (by omega)];rfl
   have hm:(((i+1:Nat):Int)).tmod (D.length:Int)=(((i+1)%D.length:Nat):Int):=by rw [Int.ofNat_tmod]
   have hj:(i+1)%D.length<D.length:=Nat.mod_lt _ (by omega)
   rw [w1,hm]
   simp only [Int.toNat_natCast]
   have h4:=h.le l4 fun _ _ g=>Ct.le g l4
   obtain ⟨ps,x,y,q,x',y',q',a,ha,a0,a1,a2,a3,a4,a5,gu⟩:=zm h4 hlt
   obtain ⟨-,u,v,t,u',v',t',b,hb,b0,b1,b2,b3,b4,b5,gw⟩:=zm h4 hj
   have eu:D.getD i (0,0)=D[i]:=by rw [List.getD_eq_getElem?_getD,List.getElem?_eq_getElem hlt];rfl
   have ew:D.getD ((i+1)%D.length) (0,0)=D[(i+1)%D.length]:=by rw [List.getD_eq_getElem?_getD,List.getElem?_eq_getElem hj];rfl
   refine ⟨ps,⟨by omega,by omega⟩,x,y,q,x',y',q',a,ha,a0,a1,a2,a3,a4,a5,by omega,ps,⟨by omega,by omega⟩,u,v,t,u',v',t',b,hb,b0,b1,b2,b3,b4,b5,?_⟩
   have es:(List.range (i+1)).map (fun i=>vu (D.getD i (0,0)) (D.getD ((i+1)%D.length) (0,0)))=(List.range i).map (fun i=>vu (D.getD i (0,0)) (D.getD ((i+1)%D.length) (0,0)))++[vu D[i] D[(i+1)%D.length]]:=by
    rw [List.range_succ,List.map_append,List.map_singleton,eu,ew]
   generalize D[i]=U at *
   generalize D[(i+1)%D.length]=W at *
   refine fun V5 l5=>(mf (gu.1.le l5) (gw.1.le l5) gu.2.1 gu.2.2 gw.2.1 gw.2.2 (by omega)).mono ?_
   rintro r V6 l6 gc
   have Kz:=gc
   obtain ⟨k1,k2,k3,rfl⟩:=gc.shape
   refine ⟨_,_,_,rfl,fun V7 l7=>(fa (Kz.le l7) (kH gu.2.1 gu.2.2 gw.2.1 gw.2.2) (by omega)).mono ?_⟩
   rintro r V8 l8 rfl
   have K5:=l5.trans (l6.trans (l7.trans l8))
   refine ⟨_,rfl,fun hp V9 l9=>(yU (gu.1.le (K5.trans l9)) (gw.1.le (K5.trans l9)) gu.2.1 gu.2.2 gw.2.1 gw.2.2 (by omega)).mono ?_,fun hp gW bI=>(wz (gu.1.le (K5.trans bI)) gu.2.1 gu.2.2 (by omega)).mono ?_⟩
   ·rintro r g_ l10 ga
    have hp:ay.cr U W>0:=ay.qj.1 (of_decide_eq_true hp)
    have MW:Ct 300000 g_ r (vu U W):=by
     unfold vu
     rw [if_pos hp]
     exact ⟨ga,(jc gu.2.1 gu.2.2 gw.2.1 gw.2.2).mono (by omega),(jd gu.2.1 gu.2.2 gw.2.1 gw.2.2).mono (by omega)⟩
    obtain ⟨_,_,_,_,_,_,rfl,-⟩:=ga
    refine ⟨_,_,_,_,_,_,rfl,by omega,g.le,g.cap,rfl,JV,fun sp c' g1 g2=>⟨(n1+1,c',_,((i+1:Nat):Int)),by dsimp only;omega,by and_intros<;>first|rfl|trivial,i+1,rfl,by omega,?_⟩⟩
    rw [es]
    exact (g.mono fun _ _ g=>Ct.le g (K5.trans (l9.trans l10))).snoc (xs:=[_,_,_,_,_,_]) rfl MW (by decide) g1 g2
   ·rintro r lH cw ga
    have hp:¬ay.cr U W>0:=fun h=>(of_decide_eq_false hp) (ay.qj.2 h)
    have MW:Ct 300000 lH r (vu U W):=by
     unfold vu
     rw [if_neg hp]
     exact ⟨ga,gu.2.2.neg.mono (by omega),gu.2.1.mono (by omega)⟩
    obtain ⟨_,_,_,_,_,_,rfl,-⟩:=ga
    refine ⟨_,_,_,_,_,_,rfl,by omega,g.le,g.cap,rfl,JV,fun sp c' g1 g2=>⟨(n1+1,c',_,((i+1:Nat):Int)),by dsimp only;omega,by and_intros<;>first|rfl|trivial,i+1,rfl,by omega,?_⟩⟩
    rw [es]
    exact (g.mono fun _ _ g=>Ct.le g (K5.trans (bI.trans cw))).snoc (xs:=[_,_,_,_,_,_]) rfl MW (by decide) g1 g2
  ·have hlt:i=D.length:=by have:=of_decide_eq_false hlt;omega
   subst hlt
   refine ⟨_,_,_,rfl,?_⟩
   have hD:D≠[]:=fun e=>h0 (by rw [e];rfl)
   unfold jF
   rw [if_neg hD,E8,gl]
   exact og.tE hb (g.row.le fun _ _ g=>Ct.le g cd) (by decide) (by rw [←gl];exact g.le)
theorem Ex {V:View}(i a:Bool):ab prog 102 #[.bool i,.bool a] V fun r V'=>r=.int .i64 (if i&&a then 2 else if i then 1 else 0):=by
 refine vF i a V _ ⟨fun h=>⟨fun h' V1 l1=>?_,fun h'=>⟨fun h'' V2 l2=>?_,fun h'' V3 l3=>?_⟩⟩,fun h=>⟨fun h' V4 l4=>?_,fun h' V5 l5=>?_⟩⟩<;>simp_all
theorem pE {pv vv:Value}{p v:Rat×Rat}(s1:Sz 1000000 p.1)(s2:Sz 1000000 p.2)(s3:Sz 300000 v.1)(s4:Sz 300000 v.2){t:Tr}{V:View}{q:OA}(h:RT V q t)(ha:t.lG Bd)(hp:lS V pv p.1 p.2)(hv:lS V vv v.1 v.2) :
  ab prog 80 #[.pointer q,pv,vv] V fun r V'=>r=.tuple #[.bool (ay.fC t p v).1,.bool (ay.fC t p v).2]:=by
 have hp0:=hp
 have hv0:=hv
 obtain ⟨x1,x2,x3,y1,y2,y3,rfl,-⟩:=hp
 obtain ⟨u1,u2,u3,w1,w2,w3,rfl,-⟩:=hv
 refine sN q x1 x2 x3 y1 y2 y3 u1 u2 u3 w1 w2 w3 V _ ⟨fun z k V'=>∃t',RT V' z t'/\t'.lG Bd/\k=t'.size/\ay.fC t' p v=ay.fC t p v,⟨q,t.size,by and_intros<;>rfl,t,h,ha,rfl,rfl⟩,?_⟩
 rintro z k V1 l1 ⟨t',h',ha',rfl,e⟩
 rw [←e]
 clear e h ha t
 refine ⟨rfl,fun V2 l2=>(kN (h'.le l2)).mono ?_⟩
 rintro r V3 l3 rfl
 have cd:=l2.trans l3
 refine ⟨_,rfl,fun hl=>?_,fun hl=>?_⟩
 ·cases t' with
  | leaf i=>cases hl
  | node ln a b=>
   obtain ⟨bb,a1,a2,a3,b1,b2,b3,c1,c2,c3,pl,pr,i,rfl,hb,hln,HJ,htb⟩:=h'.le cd
   obtain ⟨hbd,Rc,nk⟩:=ha'
   have hat:∀{W:View},V3.Le W->∀j v,([.int .i64 a1,.int .i64 a2,.pointer a3,.int .i64 b1,.int .i64 b2,.pointer b3,.int .i64 c1,.int .i64 c2,.pointer c3,.pointer pl,.pointer pr,.bool i]:List Value)[j]?=some v->W.at ((⟨bb,0,none⟩:Addr).add j) v:=by
    intro W hW j v hv;rw [add_zero'];exact cU (xs:=[_,_,_,_,_,_,_,_,_,_,_,_]) (hW _ _ hb) hv
   have h0:=View.Le.refl V3
   have sl:=hbd.Jf
   have L3:=l1.trans cd
   refine ⟨rfl,rfl,_,_,_,_,_,_,_,_,_,⟨bb,0,none⟩,rfl,hat h0 0 _ rfl,hat h0 1 _ rfl,hat h0 2 _ rfl,hat h0 3 _ rfl,hat h0 4 _ rfl,hat h0 5 _ rfl,hat h0 6 _ rfl,hat h0 7 _ rfl,hat h0 8 _ rfl,fun V4 l4=>(Gi (L:=ln) (hln.le l4) (hp0.le (L3.trans l4)) (k:=1000000) ⟨sl.1.mono (by omega),sl.2.1.mono (by omega),sl.2.2.mono (by omega)⟩ s1 s2 (by omega)).mono ?_⟩
   rintro r V5 l5 rfl
   have wM:=l4.trans l5
   refine ⟨_,rfl,fun z _=>z=ay.wT ln p v,⟨fun e0=>?_,fun e0=>?_⟩,?_⟩
   ·have e0:(cB ln p.1 p.2).num.sign=0:=by simpa using e0
    refine ⟨rfl,rfl,_,_,_,_,_,_,_,_,_,⟨bb,0,none⟩,rfl,hat wM 0 _ rfl,hat wM 1 _ rfl,hat wM 2 _ rfl,hat wM 3 _ rfl,hat wM 4 _ rfl,hat wM 5 _ rfl,hat wM 6 _ rfl,hat wM 7 _ rfl,hat wM 8 _ rfl,fun V6 l6=>(lJ (hln.le (wM.trans l6)) sl.1 sl.2.1 sl.2.2 (by omega)).mono ?_⟩
    rintro r V7 l7 gn
    have QN:=gn
    obtain ⟨d1,d2,d3,d4,d5,d6,rfl,-⟩:=gn
    refine ⟨_,_,_,_,_,_,rfl,fun V8 l8=>(pF (QN.le l8) (hv0.le (L3.trans (wM.trans (l6.trans (l7.trans l8))))) (k:=300000) (sl.1.mono (by omega)) (sl.2.1.mono (by omega)) s3 s4 (by omega)).mono ?_⟩
    rintro r V9 l9 gd
    have KA:=gd
    obtain ⟨e1,e2,e3,rfl⟩:=gd.shape
    refine ⟨_,_,_,rfl,fun g_ l10=>(fa (KA.le l10) (dK (k:=300000) (sl.1.mono (by omega)) (sl.2.1.mono (by omega)) s3 s4) (by omega)).mono ?_⟩
    rintro r gW bI rfl
    refine ⟨_,rfl,_,by and_intros<;>rfl,?_⟩
    unfold ay.wT
    rw [if_pos e0];rfl
   ·have e0:¬(cB ln p.1 p.2).num.sign=0:=fun h=>by rw [h] at e0;cases e0
    refine ⟨_,by and_intros<;>rfl,?_⟩
    unfold ay.wT
    rw [if_neg e0]
   ·rintro z lH cw rfl
    have IB:=wM.trans cw
    refine ⟨rfl,fun e1=>⟨rfl,rfl,pl,BE (IB _ _ hb) 9 rfl,pl,a.size,by simp only [Tr.size];omega,by and_intros<;>rfl,a,HJ.le IB,Rc,rfl,?_⟩,fun e1=>⟨fun e2=>⟨rfl,rfl,pr,BE (IB _ _ hb) 10 rfl,pr,b.size,by simp only [Tr.size];omega,by and_intros<;>rfl,b,htb.le IB,nk,rfl,?_⟩,fun e2 lU cd=>?_⟩⟩
    ·have e1:ay.wT ln p v=1:=by simpa using e1
     simp only [ay.fC];rw [if_pos e1]
    ·have e1:¬ay.wT ln p v=1:=by simpa using e1
     have e2:ay.wT ln p v=-1:=by simpa using e2
     simp only [ay.fC];rw [if_neg e1,if_pos e2]
    ·have e1:¬ay.wT ln p v=1:=by simpa using e1
     have e2:¬ay.wT ln p v=-1:=by simpa using e2
     simp only [ay.fC];rw [if_neg e1,if_neg e2]
 ·cases t' with
  | node ln a b=>cases hl
  | leaf i=>
   obtain ⟨b,c0,c1,c2,c3,c4,c5,c6,c7,c8,r,rfl,hb⟩:=h'.le cd
   exact ⟨rfl,rfl,i,BE hb 11 rfl,fun po dN=>rfl⟩
theorem C6 (n:Int){d:Nat}(h:d≠0):mkRat n d*((d:Nat):Rat)=(n:Rat):=by
 have hd:((d:Nat):Rat)≠0:=by exact_mod_cast h
 rw [Rat.mkRat_eq_div,Rat.div_def]
 exact ay.inv_mul hd _
theorem F7 {p:Rat×Rat}(h:ay.nz p):gQ p.1 p.2>0:=by
 have hd:p.1.den*p.2.den≠0:=Nat.mul_ne_zero p.1.den_nz p.2.den_nz
 have e:=C6 (Nat.gcd (p.1.num.natAbs*p.2.den) (p.2.num.natAbs*p.1.den):Nat) hd
 have hg:0<Nat.gcd (p.1.num.natAbs*p.2.den) (p.2.num.natAbs*p.1.den):=by
  apply Nat.pos_of_ne_zero
  intro z
  rw [Nat.gcd_eq_zero_iff] at z
  have z1:p.1=0:=by
   rcases Nat.mul_eq_zero.1 z.1 with e|e
   ·exact Rat.num_eq_zero.1 (by omega)
   ·exact absurd e p.2.den_nz
  have z2:p.2=0:=by
   rcases Nat.mul_eq_zero.1 z.2 with e|e
   ·exact Rat.num_eq_zero.1 (by omega)
   ·exact absurd e p.1.den_nz
  unfold ay.nz at h
  rcases h with h|h
  ·exact h z1
  ·exact h z2
 have d0:((p.1.den*p.2.den:Nat):Rat)>0:=by exact_mod_cast Nat.pos_of_ne_zero hd
 have g0:(((Nat.gcd (p.1.num.natAbs*p.2.den) (p.2.num.natAbs*p.1.den):Nat):Int):Rat)>0:=by exact_mod_cast hg
 show mkRat _ _>0
 generalize mkRat ((Nat.gcd (p.1.num.natAbs*p.2.den) (p.2.num.natAbs*p.1.den):Nat):Int) (p.1.den*p.2.den)=q at *
 by_cases hq:q>0
 ·exact hq
 ·have:=ay.mn (show -q≥0 by grind) (show ((p.1.den*p.2.den:Nat):Rat)≥0 by grind)
  grind
theorem Bx {p:Rat×Rat}(h:ay.nz p):∃c:Rat,c>0/\jB p=(c*p.1,c*p.2):=
 ⟨(gQ p.1 p.2)⁻¹,Rat.inv_pos.2 (F7 h),Prod.ext (Rat.mul_comm ..) (Rat.mul_comm ..)⟩
theorem tD {l:L3}(h:¬(l.1=0/\l.2.1=0)):ay.nz (ay.cC l):=by
 unfold ay.nz ay.cC
 by_cases e:l.2.1=0
 ·right
  intro e'
  have:(l.1:Rat)=0:=by grind
  exact h ⟨by exact_mod_cast this,e⟩
 ·left
  show (l.2.1:Rat)≠0
  exact_mod_cast e
def AU (s a:Bool):Int:=if a then 2 else if s then 1 else 0
def kJ (t:Tr)(p:Rat×Rat)(c:Int):Prop:=∀D S,ay.Am D->ay.Er D S->ay.En D (ay.cM t p)->c=AU (ay.anyS t p S) (ay.iD t p S)
theorem CK {t:Tr}{p:Rat×Rat}{D S:List (Rat×Rat)}(h1:ay.Am D)(h2:ay.Er D S)(h3:ay.En D (ay.cM t p)):kJ t p (AU (ay.anyS t p S) (ay.iD t p S)):=by
 intro D' S' g1 g2 g3
 obtain ⟨e1,e2⟩:=ay.Ls h1 h2 g1 g2 h3 g3
 rw [e1,e2]
theorem D6 {q:L3->Prop}{t:Tr}(h:t.lG q){p:Rat×Rat}:∀l∈ay.cM t p,q l:=fun l hl=>jx h l (ay.mz hl).2
theorem I_ {u w:Rat×Rat}(h:ay.cr u w≥0):ay.qG u w (vu u w):=by
 unfold vu
 by_cases g:ay.cr u w>0
 ·rw [if_pos g]
  exact .inl ⟨g,1,1,by decide,by decide,Prod.ext (by unfold ay.wN;grind) (by unfold ay.wN;grind)⟩
 ·rw [if_neg g]
  exact .inr ⟨by grind,1,by decide,Prod.ext (by unfold ay.wN ay.Ek;grind) (by unfold ay.wN ay.Ek;grind)⟩
theorem rv {D:List (Rat×Rat)}(h:ay.Am D):ay.Er D (jF D):=by
 unfold jF
 by_cases e:D=[]
 ·rw [if_pos e];exact .inl ⟨e,rfl⟩
 ·rw [if_neg e];exact ay.I7 h (fun u _ w _ hc=>I_ hc) e
theorem Hj (D:List (Rat×Rat)):jF D≠[]:=by
 unfold jF
 by_cases e:D=[]
 ·rw [if_pos e];simp
 ·rw [if_neg e]
  intro h
  have:=congrArg List.length h
  unfold ay.Hi at this
  rw [List.length_map,List.length_range] at this
  exact e (List.length_eq_zero_iff.1 this)
theorem E9 (D:List (Rat×Rat)):(jF D).length<=D.length+1:=by
 unfold jF
 split
 ·simp
 ·unfold ay.Hi;simp
theorem yr (M:List L3):(iW M).length=2*M.length:=by
 induction M with
 | nil=>rfl
 | cons l M ih=>
  have:iW (l::M)=IW l++iW M:=rfl
  rw [this,List.length_append,ih]
  simp [IW];omega
theorem pV:∀(t:Tr)(p:Rat×Rat),(ay.cM t p).length<=t.size
 | .leaf _,_=>Nat.le_refl _
 | .node l a b,p=>by
  have:=pV a p
  have:=pV b p
  simp only [ay.cM,List.length_append,Tr.size]
  have h1:(if cB l p.1 p.2=0 then [l] else []).length<=1:=by split<;>simp
  have h2:(if cB l p.1 p.2≥0 then ay.cM a p else []).length<=a.size:=by
   split
   ·omega
   ·simp
  have h3:(if cB l p.1 p.2<=0 then ay.cM b p else []).length<=b.size:=by
   split
   ·omega
   ·simp
  omega
theorem Ed {M:List L3}(ho:∀l∈M,¬(l.1=0/\l.2.1=0)){m:List (Rat×Rat)}(pm:m.Perm (iW M))(pw:m.Pairwise fun x y=>¬dq y x<0):ay.Am (fj eP m)/\ay.En (fj eP m) M:=by
 have mem:∀r,r∈m↔∃l∈M,r=jB (ay.cC l)\/r=C7 (jB (ay.cC l)):=fun r=>by
  rw [pm.mem_iff]
  unfold iW IW
  simp only [List.mem_flatMap,List.mem_cons,List.not_mem_nil,or_false]
 have key:=ay.Lo (m:=m) pw ?_ ?_
 ·obtain ⟨k1,k2⟩:=key
  refine ⟨k1,fun l hl=>?_⟩
  obtain ⟨y,hy,c,c0,e⟩:=k2 (jB (ay.cC l)) ((mem _).2 ⟨l,hl,.inl rfl⟩)
  obtain ⟨d,d0,e'⟩:=Bx (tD (ho l hl))
  refine ⟨y,hy,c*d,ay.mp c0 d0,?_⟩
  rw [e,e']
  exact Prod.ext (by show c*(d*_)=_;grind) (by show c*(d*_)=_;grind)
 ·intro r hr
  obtain ⟨l,hl,h⟩:=(mem r).1 hr
  have n0:=tD (ho l hl)
  obtain ⟨d,d0,e'⟩:=Bx n0
  have np:ay.nz (jB (ay.cC l)):=by
   rw [e']
   unfold ay.nz at n0 ⊢
   rcases n0 with n0|n0
   ·exact .inl fun h=>by rcases Rat.mul_eq_zero.1 h with h|h;grind;exact n0 h
   ·exact .inr fun h=>by rcases Rat.mul_eq_zero.1 h with h|h;grind;exact n0 h
  rcases h with rfl|rfl
  ·exact np
  ·unfold ay.nz C7 at *
   rcases np with np|np
   ·exact .inl (by show -(jB (ay.cC l)).1≠0;grind)
   ·exact .inr (by show -(jB (ay.cC l)).2≠0;grind)
 ·intro r hr
  obtain ⟨l,hl,h⟩:=(mem r).1 hr
  rcases h with rfl|rfl
  ·exact ⟨_,(mem _).2 ⟨l,hl,.inr rfl⟩,1,by decide,by unfold C7;grind,by unfold C7;grind⟩
  ·exact ⟨_,(mem _).2 ⟨l,hl,.inl rfl⟩,1,by decide,by unfold C7;grind,by unfold C7;grind⟩
theorem iw {t:Tr}{p:Rat×Rat}{S:List (Rat×Rat)}{i:Nat}(h:i<S.length):ay.anyS t p (S.take (i+1))=(ay.anyS t p (S.take i)||(ay.fC t p S[i]).1):=by
 unfold ay.anyS
 rw [←List.take_append_getElem h,List.any_append]
 simp
theorem iu {t:Tr}{p:Rat×Rat}{S:List (Rat×Rat)}{i:Nat}(h:i<S.length):ay.iD t p (S.take (i+1))=(ay.iD t p (S.take i)&&(ay.fC t p S[i]).1):=by
 unfold ay.iD
 rw [←List.take_append_getElem h,List.all_append]
 simp
theorem DO {t:Tr}{p:Rat×Rat}{S:List (Rat×Rat)}(h:S≠[])(ha:ay.iD t p S=true):ay.anyS t p S=true:=by
 cases S with
 | nil=>exact absurd rfl h
 | cons x r=>
  unfold ay.iD at ha
  unfold ay.anyS
  simp only [List.all_cons,Bool.and_eq_true] at ha
  simp [ha.1]
theorem AE {pv:Value}{p:Rat×Rat}(s1:Sz 1000000 p.1)(s2:Sz 1000000 p.2){t:Tr}{V:View}{q:OA}(h:RT V q t)(ha:t.lG Bd)(ho:t.lG fun l=>¬(l.1=0/\l.2.1=0))(hs:t.size<25)(hso:∀n c,tL n c (iW (ay.cM t p)))(hp:lS V pv p.1 p.2) :
  ab prog 46 #[.pointer q,pv] V fun r V'=>∃c,r=.int .i64 c/\kJ t p c:=by
 have hp0:=hp
 obtain ⟨x1,x2,x3,y1,y2,y3,rfl,-⟩:=hp
 refine vC q x1 x2 x3 y1 y2 y3 V _ fun V1 l1=>(CB s1 s2 t (V:=V1) (lb:=0) (n:=0) (c:=0) (vs:=[]) (o:=[]) (h.le l1) ha (hp0.le l1) (fun h=>absurd rfl h) (fun h=>absurd rfl h) GR.nil (fun h=>absurd rfl h) (by omega)).mono ?_
 rintro r V2 l2 ⟨bm,vm,n1,c1,a1,a2,rfl,a3,a4,a5⟩
 have Po:vm≠[]->V1.w.heap.size<=bm:=fun h=>(a2 h).elim id fun h=>absurd rfl h.1
 refine ⟨bm,vm,a1,fun h=>.inl (Po h),none,n1,c1,rfl,fun V3 l3 Ko e1 e2=>?_⟩
 have L3:V.Le V3:=l1.trans ((pS l2 (View.Le.refl V1) fun h=>.inl (Po h)).trans l3)
 rw [List.nil_append] at a3
 have ni:(iW (ay.cM t p)).length<50:=by
  have:=pV t p
  rw [yr];omega
 refine (yR (V:=V3.au [vb vm V3.w.heap.size Ko]) (lb:=Ko) e1 (fun h=>⟨by simp [vB h],e2 h⟩) (a3.mono (V':=V3.au _) fun _ _ g=>kI.le g fun b o h=>l3 b o h) a4 ni (hso _ _)).mono ?_
 rintro r V4 l4 ⟨Wf,XG,n2,c2,m,b1,b2,rfl,row,rfl,b4,pm,pw⟩
 refine ⟨Wf,XG,b1,b2,none,_,c2,rfl,fun V5 l5 Jw e3=>?_⟩
 have L5:V.Le V5:=L3.trans ((pS (V:=V3) (V':=V3) (fun b o h=>l4 b o h) (View.Le.refl V3) fun h=>(b2 h).imp id fun h'=>by rw [h'.2];exact e2 h'.1).trans l5)
 have N2:=pm.length_eq
 have Wk:=uk (e:=eP) (l:=m)
 obtain ⟨ry,cv⟩:=Ed (D6 ho) pm pw
 refine (Ey (D:=fj eP m) (og.tE e3 (row.le fun _ _ g=>(kI.le g fun b o h=>l5 b o h:kI V5 _ _)) (by decide) b4) (by omega)).mono ?_
 rintro r V6 l6 ⟨q',n3,c3,rfl,hS⟩
 have ne:=Hj (fj eP m)
 have sm:=rv ry
 have sl:=E9 (fj eP m)
 generalize jF (fj eP m)=S at *
 have hl:=hS.len
 subst hl
 refine ⟨q',_,c3,rfl,fun _=>⟨fun z V'=>∃i:Nat,z.2.2=(i:Int)/\i<=S.length/\z.1=ay.anyS t p (S.take i)/\z.2.1=ay.iD t p (S.take i),fun z=>(S.length-z.2.2).toNat,⟨(false,true,0),by and_intros<;>rfl,0,rfl,Nat.zero_le _,rfl,rfl⟩,?_⟩⟩
 rintro ⟨z1,z2,z3⟩ V7 l7 ⟨i,e,hi,f1,f2⟩
 dsimp only at e f1 f2 ⊢
 subst e f1 f2
 have L7:=L5.trans (l6.trans l7)
 refine ⟨rfl,fun hlt=>?_,fun hlt g_ l10=>(Ex _ _).mono ?_⟩
 ·have hlt:i<S.length:=by have:=of_decide_eq_true hlt;omega
  have w1:i64.wrap ((i:Int)+1)=((i+1:Nat):Int):=by rw [ar (by omega)];rfl
  obtain ⟨ps,x,y,qq,x',y',Xt,a,Re,g0,g1,g2,g3,g4,g5,gu⟩:=zm (hS.le l7 fun _ _ g=>Ct.le g l7) hlt
  rw [w1]
  simp only [Int.toNat_natCast]
  refine ⟨ps,⟨by omega,by omega⟩,x,y,qq,x',y',Xt,a,Re,g0,g1,g2,g3,g4,g5,fun V8 l8=>(pE (p:=p) (v:=S[i]) (s1.mono (by omega)) (s2.mono (by omega)) gu.2.1 gu.2.2 (h.le (L7.trans l8)) ha (hp0.le (L7.trans l8)) (gu.1.le l8)).mono ?_⟩
  rintro r V9 l9 rfl
  refine ⟨_,_,rfl,fun k=>⟨(true,_,((i+1:Nat):Int)),by dsimp only;omega,by and_intros<;>first|rfl|trivial,i+1,rfl,by omega,?_,?_⟩,fun k=>⟨(_,false,((i+1:Nat):Int)),by dsimp only;omega,by and_intros<;>first|rfl|trivial,i+1,rfl,by omega,?_,?_⟩⟩
  ·rw [iw hlt,k,Bool.or_true]
  ·rw [iu hlt,k,Bool.and_true];rfl
  ·rw [iw hlt,k,Bool.or_false];rfl
  ·rw [iu hlt,k,Bool.and_false]
 ·have hlt:i=S.length:=by have:=of_decide_eq_false hlt;omega
  subst hlt
  rintro r gW bI rfl
  refine ⟨_,rfl,fun lH cw=>⟨_,rfl,?_⟩⟩
  rw [List.take_length]
  have:(if (ay.anyS t p S&&ay.iD t p S)=true then (2:Int) else if ay.anyS t p S=true then 1 else 0)=AU (ay.anyS t p S) (ay.iD t p S):=by
   unfold AU
   cases e:ay.iD t p S
   ·simp
   ·rw [DO ne e];rfl
  rw [this]
  exact CK ry sm cv
theorem zy (l:List Nd):∀(f:Nat)(n:Int)(s:RS),s.bad=true->(eB l f n s).2.bad=true
 | 0,_,_,h=>h
 | f+1,n,s,h=>by
  simp only [eB]
  split
  ·exact h
  ·split
   ·exact h
   ·split
    ·rfl
    ·split
     ·split
      ·exact zy l f _ _ (zy l f _ _ h)
      ·rfl
     ·rfl
def Rp (l:List Nd):Int->Tr->Prop
 | n,.leaf i=>n=(if i then -2 else -1)
 | n,.node ln a b=>∃(k:Nat)(x:Nd),n=(k:Int)/\l[k]?=some x/\x.ln=ln/\j9 ln=true/\Rp l x.left a/\Rp l x.right b
theorem C_ (l:List Nd):∀(f:Nat)(n:Int)(s:RS),s.seen.count false<f->(eB l f n s).2.bad=false->Rp l n (eB l f n s).1/\(eB l f n s).2.kY=s.kY+(eB l f n s).1.size
 | 0,_,_,h,_=>by omega
 | f+1,n,s,hf,h=>by
  simp only [eB] at h ⊢
  by_cases n2:n=-2
  ·rw [if_pos n2];exact ⟨n2,rfl⟩
  rw [if_neg n2] at h ⊢
  by_cases n1:n=-1
  ·rw [if_pos n1];exact ⟨n1,rfl⟩
  rw [if_neg n1] at h ⊢
  by_cases n0:n<0
  ·rw [if_pos n0] at h;cases h
  rw [if_neg n0] at h ⊢
  split at h
  ·rename_i x hx hs
   by_cases ho:j9 x.ln=true
   ·rw [if_pos ho] at h ⊢
    dsimp only at h ⊢
    have hb:(eB l f x.left ⟨s.seen.set n.toNat true,s.kY+1,s.bad⟩).2.bad=false:=by
     cases e:(eB l f x.left ⟨s.seen.set n.toNat true,s.kY+1,s.bad⟩).2.bad
     ·rfl
     ·have:=zy l f x.right _ e
      rw [h] at this;cases this
    have hc:=count_set hs
    obtain ⟨i1,i2⟩:=C_ l f x.left _ (by dsimp only;omega) hb
    have hm:=(pY l f x.left ⟨s.seen.set n.toNat true,s.kY+1,s.bad⟩).1
    dsimp only at i2 hm
    obtain ⟨j1,j2⟩:=C_ l f x.right _ (by omega) h
    exact ⟨⟨n.toNat,x,by omega,hx,rfl,ho,i1,j1⟩,by simp only [Tr.size];omega⟩
   ·rw [if_neg ho] at h;cases h
  ·cases h
theorem La {l:List Nd}{root:Int}{t:Tr}(h:nI l root=some t):Rp l root t/\l.length=t.size/\t.lG fun x=>j9 x=true:=by
 unfold nI at h
 split at h
 ·cases h
 ·dsimp only at h
  split at h
  ·cases h
  ·rename_i hb
   cases h
   have hb':(eB l (l.length+1) root ⟨List.replicate l.length false,0,false⟩).2.bad=false/\(eB l (l.length+1) root ⟨List.replicate l.length false,0,false⟩).2.kY=l.length:=by
    constructor
    ·cases e:(eB l (l.length+1) root ⟨List.replicate l.length false,0,false⟩).2.bad
     ·rfl
     ·exact absurd (.inl e) hb
    ·by_cases e:(eB l (l.length+1) root ⟨List.replicate l.length false,0,false⟩).2.kY=l.length
     ·exact e
     ·exact absurd (.inr e) hb
   obtain ⟨h1,h2⟩:=C_ l (l.length+1) root ⟨List.replicate l.length false,0,false⟩ (by simp) hb'.1
   have ok:∀{t:Tr} {n:Int},Rp l n t->t.lG fun x=>j9 x=true:=by
    intro t
    induction t with
    | leaf i=>intro n _;trivial
    | node ln a b iha ihb=>rintro n ⟨k,x,_,_,_,ho,ha,hb⟩;exact ⟨ho,iha ha,ihb hb⟩
   refine ⟨h1,?_,ok h1⟩
   have:=hb'.2
   rw [h2] at this
   dsimp only at this
   omega
def wc (V:View)(w:Value)(p:Rat×Rat):Prop:=(∃b q n c q' n' c' d r m e r' m' e',w=.agg #[.bool b,.slice q n c,.slice q' n' c',.bool d,.slice r m e,.slice r' m' e']) /\
 ∀V1,V.Le V1->ab prog 47 #[w] V1 fun r V'=>lS V' r p.1 p.2
theorem wc.le {V V':View}{w:Value}{p:Rat×Rat}(h:wc V w p)(l:V.Le V'):wc V' w p:=⟨h.1,fun V1 l1=>h.2 V1 (l.trans l1)⟩
theorem wc.of {V:View}{w:Value}{p:Rat×Rat}(h:Kd V w p.1 p.2){k:Nat}(s1:Sz k p.1)(s2:Sz k p.2)(hk:k<=1099511627776):wc V w p:=by
 refine ⟨?_,fun V1 l1=>CC (h.le l1) s1 s2 hk⟩
 obtain ⟨b,q,n,c,q',n',c',d,r,m,e,r',m',e',rfl,-⟩:=h
 exact ⟨_,_,_,_,_,_,_,_,_,_,_,_,_,_,rfl⟩
theorem wc.raw {V:View}{b d:Bool}{q q' r r':OA}{n c n' c' m e m' e':Nat}{xs ys us vs:List Nat}(h1:RD V q n c xs)(h2:RD V q' n' c' ys)(h3:RD V r m e us)(h4:RD V r' m' e' vs)(k1:xs.length<=1000000)(k2:ys.length<=1000000)(k3:us.length<=1000000)(k4:vs.length<=1000000) :
  wc V (.agg #[.bool b,.slice q n c,.slice q' n' c',.bool d,.slice r m e,.slice r' m' e']) (mkRat (aY b xs) (val ys),mkRat (aY d us) (val vs)):=by
 refine ⟨⟨_,_,_,_,_,_,_,_,_,_,_,_,_,_,rfl⟩,fun V0 l0=>?_⟩
 refine sv b q n c q' n' c' d r m e r' m' e' V0 _ fun V1 l1=>(ou b (h1.le (l0.trans l1)) (h2.le (l0.trans l1)) (by omega) (by omega)).mono ?_
 rintro r V2 l2 g
 have g0:=g
 obtain ⟨x1,x2,x3,rfl⟩:=g.shape
 refine ⟨_,_,_,rfl,fun V3 l3=>(ou d (h3.le (l0.trans (l1.trans (l2.trans l3)))) (h4.le (l0.trans (l1.trans (l2.trans l3)))) (by omega) (by omega)).mono ?_⟩
 rintro r V4 l4 g'
 have g0':=g'
 obtain ⟨y1,y2,y3,rfl⟩:=g'.shape
 exact ⟨_,_,_,rfl,fun V5 l5=>⟨_,_,_,_,_,_,rfl,g0.le (l3.trans (l4.trans l5)),g0'.le l5⟩⟩
theorem wc.zero {V:View}:wc V (.agg #[.bool false,.slice none 0 0,.slice none 0 0,.bool false,.slice none 0 0,.slice none 0 0]) (0,0):=by
 have e:mkRat (aY false []) (val [])=0:=by decide
 have:=@wc.raw V false false none none none none 0 0 0 0 0 0 0 0 [] [] [] [] RD.nil RD.nil RD.nil RD.nil (by decide) (by decide) (by decide) (by decide)
 rw [e] at this
 exact this
theorem C8 {l:L3}(h:j9 l=true):¬(l.1=0/\l.2.1=0):=by
 unfold j9 at h
 rw [Bool.and_eq_true,decide_eq_true_iff] at h
 exact h.1
theorem mi {V:View}{v w:Value}{root:Int}{l:List Nd}(hb:∀x∈l,Bd x.ln)(h:AT V v root l){p:Rat×Rat}(hp:wc V w p)(s1:Sz 1000000 p.1)(s2:Sz 1000000 p.2)(hs:∀t,nI l root=some t->t.size<25)(hso:∀t,nI l root=some t->∀n c,tL n c (iW (ay.cM t p)))
  {y:Value}(hy:sC V 0 y) :
  ab prog 13 #[v,w] V fun r V'=>(nI l root=none->r=.tuple #[.int .i64 0,y])/\∀t,nI l root=some t->∃c,r=.tuple #[.int .i64 c,.nilIface]/\kJ t p c:=by
 have h0:=h
 obtain ⟨q,n,c,rfl,-⟩:=h
 have hp0:=hp
 obtain ⟨⟨b,q1,n1,c1,q2,n2,c2,d,r,m,e,r',m',e',rfl⟩,hp1⟩:=hp
 refine sU root q n c b q1 n1 c1 q2 n2 c2 d r m e r' m' e' V _ fun V1 l1=>(xN hb (h0.le l1)).mono ?_
 rintro r V2 l2 ⟨a,rfl,ha⟩
 have uM:=l1.trans l2
 refine ⟨_,_,rfl,fun g=>⟨y,⟨_,rfl,hy.le uM⟩,fun V3 l3=>?_⟩,fun g V4 l4=>(hp1 V4 (uM.trans l4)).mono ?_⟩
 ·have g:nI l root=none:=by cases e:nI l root with
   | none=>rfl
   | some t=>rw [e] at g;cases g
  exact ⟨fun _=>rfl,fun t ht=>by rw [g] at ht;cases ht⟩
 ·cases e:nI l root with
  | none=>rw [e] at g;cases g
  | some t=>
   rintro r V5 l5 gp
   have QO:=gp
   obtain ⟨_,_,_,_,_,_,rfl,-⟩:=gp
   have ok:=(La e).2.2
   refine ⟨_,_,_,_,_,_,rfl,fun V6 l6=>(AE s1 s2 ((ha t e).le (l4.trans (l5.trans l6))) (D_ hb e) (ok.imp fun _ h=>C8 h) (hs t e) (hso t e) (QO.le l6)).mono ?_⟩
   rintro r V7 l7 ⟨c,rfl,hc⟩
   exact ⟨c,rfl,fun V8 l8=>⟨(fun h=>by cases h),fun t' ht=>by cases ht;exact ⟨c,rfl,hc⟩⟩⟩
def xU (x:Bool×Bool):Int:=if x.2 then (if x.1 then -2 else -1) else 0
theorem gO {V:View}{v w u:Value}{root:Int}{l:List Nd}(hb:∀x∈l,Bd x.ln)(h:AT V v root l){p d:Rat×Rat}(hp:wc V w p)(hd:wc V u d)(s1:Sz 1000000 p.1)(s2:Sz 1000000 p.2)(s3:Sz 300000 d.1)(s4:Sz 300000 d.2)
  {y:Value}(hy:sC V 0 y) :
  ab prog 27 #[v,w,u] V fun r V'=>(nI l root=none->r=.tuple #[.int .i64 0,.bool false,y])/\∀t,nI l root=some t->r=.tuple #[.int .i64 (xU (ay.fC t p d)),.bool (ay.fC t p d).2,.nilIface]:=by
 have h0:=h
 obtain ⟨q,n,c,rfl,-⟩:=h
 obtain ⟨⟨b,q1,n1,c1,q2,n2,c2,d1,r,m,e,r',m',e',rfl⟩,hp1⟩:=hp
 obtain ⟨⟨b',q3,n3,c3,q4,n4,c4,d2,q5,n5,c5,q6,n6,c6,rfl⟩,hd1⟩:=hd
 refine rF root q n c b q1 n1 c1 q2 n2 c2 d1 r m e r' m' e' b' q3 n3 c3 q4 n4 c4 d2 q5 n5 c5 q6 n6 c6 V _ fun V1 l1=>(xN hb (h0.le l1)).mono ?_
 rintro r V2 l2 ⟨a,rfl,ha⟩
 have uM:=l1.trans l2
 refine ⟨_,_,rfl,fun g=>⟨y,⟨_,rfl,hy.le uM⟩,fun V3 l3=>?_⟩,fun g V4 l4=>(hp1 V4 (uM.trans l4)).mono ?_⟩
 ·have g:nI l root=none:=by cases e:nI l root with
   | none=>rfl
   | some t=>rw [e] at g;cases g
  exact ⟨fun _=>rfl,fun t ht=>by rw [g] at ht;cases ht⟩
 ·cases e:nI l root with
  | none=>rw [e] at g;cases g
  | some t=>
   rintro r V5 l5 gp
   have QO:=gp
   obtain ⟨_,_,_,_,_,_,rfl,-⟩:=gp
   refine ⟨_,_,_,_,_,_,rfl,fun V6 l6=>(hd1 V6 (uM.trans (l4.trans (l5.trans l6)))).mono ?_⟩
   rintro r V7 l7 gd
   have KA:=gd
   obtain ⟨_,_,_,_,_,_,rfl,-⟩:=gd
   refine ⟨_,_,_,_,_,_,rfl,fun V8 l8=>(pE s1 s2 s3 s4 ((ha t e).le (l4.trans (l5.trans (l6.trans (l7.trans l8))))) (D_ hb e) (QO.le (l6.trans (l7.trans l8))) (KA.le l8)).mono ?_⟩
   rintro r V9 l9 rfl
   have key:∀z:Int,xU (ay.fC t p d)=z->∀b,(ay.fC t p d).2=b->(some t=none->Value.tuple #[.int .i64 z,.bool b,.nilIface]=.tuple #[.int .i64 0,.bool false,y])/\∀t',some t=some t'->Value.tuple #[.int .i64 z,.bool b,.nilIface]=.tuple #[.int .i64 (xU (ay.fC t' p d)),.bool (ay.fC t' p d).2,.nilIface]:=by
    rintro z rfl b rfl
    exact ⟨(fun h=>by cases h),fun t' ht=>by cases ht;rfl⟩
   refine ⟨_,_,rfl,fun k g_ l10=>key _ ?_ _ ?_,fun k=>⟨fun k' gW bI=>key _ ?_ _ ?_,fun k' lH cw=>key _ ?_ _ ?_⟩⟩<;>simp_all [xU]
theorem wC {V:View}{v w:Value}{root:Int}{l:List Nd}(hb:∀x∈l,Bd x.ln)(h:AT V v root l){p:Rat×Rat}(hp:wc V w p)(s1:Sz 1000000 p.1)(s2:Sz 1000000 p.2){y:Value}(hy:sC V 0 y) :
  ab prog 26 #[v,w] V fun r V'=>(nI l root=none->r=.tuple #[.int .i64 0,.bool false,y])/\∀t,nI l root=some t->r=.tuple #[.int .i64 (xU (ay.fC t p (0,0))),.bool (ay.fC t p (0,0)).2,.nilIface]:=by
 have h0:=h
 obtain ⟨q,n,c,rfl,-⟩:=h
 have hp0:=hp
 obtain ⟨⟨b,q1,n1,c1,q2,n2,c2,d1,r,m,e,r',m',e',rfl⟩,hp1⟩:=hp
 refine vO root q n c b q1 n1 c1 q2 n2 c2 d1 r m e r' m' e' V _ fun V1 l1=>(gO (d:=(0,0)) hb (h0.le l1) (hp0.le l1) wc.zero s1 s2 mI mI (hy.le l1)).mono ?_
 rintro r V2 l2 ⟨g1,g2⟩
 cases e:nI l root with
 | none=>
  rw [g1 e]
  exact ⟨_,_,_,rfl,fun V3 l3=>⟨fun _=>rfl,fun t ht=>by cases ht⟩⟩
 | some t=>
  rw [g2 t e]
  exact ⟨_,_,_,rfl,fun V3 l3=>⟨(fun h=>by cases h),fun t' ht=>by cases ht;rfl⟩⟩
theorem nR {V:View}{v w:Value}{x y x' y':Rat}(h:RP V v x y)(h':RP V w x' y'){k:Nat}(s1:Sz k x)(s2:Sz k y)(s3:Sz k x')(s4:Sz k y')(hk:4*k+4<274877906944) :
  ab prog 60 #[v,w] V fun r V'=>RQ V' r (x*y'-y*x'):=by
 obtain ⟨_,_,_,_,_,_,_,_,_,_,_,_,rfl,h1,h2⟩:=h
 obtain ⟨_,_,_,_,_,_,_,_,_,_,_,_,rfl,h3,h4⟩:=h'
 refine vT _ _ _ _ _ _ _ _ _ _ _ _ _ _ _ _ _ _ _ _ _ _ _ _ _ _ _ _ V _ fun V1 l1=>(aO (h1.le l1) (h4.le l1) s1 s4 (by omega)).mono ?_
 rintro r V2 l2 g
 have g0:=g
 obtain ⟨_,_,_,_,_,_,rfl⟩:=g.shape
 refine ⟨_,_,_,_,_,_,_,rfl,fun V3 l3=>(aO (h2.le (l1.trans (l2.trans l3))) (h3.le (l1.trans (l2.trans l3))) s2 s3 (by omega)).mono ?_⟩
 rintro r V4 l4 g'
 have g0':=g'
 obtain ⟨_,_,_,_,_,_,rfl⟩:=g'.shape
 refine ⟨_,_,_,_,_,_,_,rfl,fun V5 l5=>(kj (g0.le (l3.trans (l4.trans l5))) (g0'.le l5) (s1.mul s4) (s2.mul s3) (by omega)).mono ?_⟩
 rintro r V6 l6 q
 have q0:=q
 obtain ⟨_,_,_,_,_,_,rfl⟩:=q.shape
 exact ⟨_,_,_,_,_,_,_,rfl,fun V7 l7=>q0.le l7⟩
theorem LU.raw {V:View}{v:Value}{l:L3}{s:Sp}(h:LU V v l s)(ho:Vt l s){k:Nat}(sl:yH k l)(ss:s.sz k)(hk:k<=1000000):∃f:FW,Pb V v f/\f.ok=true/\f.ln=l/\f.sp=s/\f.short:=by
 obtain ⟨b1,p1,n1,c1,b2,p2,n2,c2,b3,p3,n3,c3,b,p,n,c,p',n',c',d,q,m,e,q',m',e',rfl,h1,h2⟩:=h
 obtain ⟨_,_,_,_,_,_,_,_,_,el,x1,x2,x3⟩:=h1
 have el:=congrArg Array.toList (Value.agg.inj el)
 simp only [List.cons.injEq,Value.bool.injEq,Value.slice.injEq,and_true] at el
 obtain ⟨rfl,⟨rfl,rfl,rfl⟩,rfl,⟨rfl,rfl,rfl⟩,rfl,rfl,rfl,rfl⟩:=el
 obtain ⟨_,_,_,_,_,_,_,_,_,_,_,_,_,_,es,y1,y2⟩:=h2
 have es:=congrArg Array.toList (Value.agg.inj es)
 simp only [List.cons.injEq,Value.bool.injEq,Value.slice.injEq,and_true] at es
 obtain ⟨rfl,⟨rfl,rfl,rfl⟩,⟨rfl,rfl,rfl⟩,rfl,⟨rfl,rfl,rfl⟩,⟨rfl,rfl,rfl⟩⟩:=es
 obtain ⟨ok,can,emp⟩:=ho
 obtain ⟨w1,us,vs,r1,o1,e1,z1⟩:=y1.raw can.1
 obtain ⟨w2,ws,ts,r2,o2,e2,z2⟩:=y2.raw can.2
 have i1:=r1
 have i2:=r2
 obtain ⟨_,_,_,_,_,_,f1,-,-⟩:=i1
 obtain ⟨_,_,_,_,_,_,f2,-,-⟩:=i2
 have f1:=congrArg Array.toList (Value.agg.inj f1)
 have f2:=congrArg Array.toList (Value.agg.inj f2)
 simp only [List.cons.injEq,Value.bool.injEq,Value.slice.injEq,and_true] at f1 f2
 obtain ⟨rfl,-⟩:=f1
 obtain ⟨rfl,-⟩:=f2
 have len:∀{z:Int},Sz k (z:Rat)->(ai z.natAbs).length<=1000000:=fun h=>Nat.le_trans (af h.1) hk
 have d1:=z1 k ss.1
 have d2:=z2 k ss.2
 refine ⟨⟨decide (l.1<0),ai l.1.natAbs,decide (l.2.1<0),ai l.2.1.natAbs,decide (l.2.2<0),ai l.2.2.natAbs,b,us,vs,d,ws,ts,s.a,s.b⟩,⟨_,_,_,_,_,_,_,_,_,_,_,_,_,_,_,_,_,_,_,_,_,rfl,⟨_,_,_,_,_,_,_,_,_,rfl,x1,x2,x3⟩,⟨_,_,_,_,_,_,_,_,_,_,_,_,rfl,r1,r2⟩⟩,?_,?_,?_,⟨len sl.1,len sl.2.1,len sl.2.2,Nat.le_trans d1.1 hk,Nat.le_trans d1.2 hk,Nat.le_trans d2.1 hk,Nat.le_trans d2.2 hk⟩⟩
 ·have e3:ON b us vs d ws ts s.a s.b=s:=by unfold ON;rw [e1,e2]
  unfold FW.ok okW
  dsimp only
  rw [Bt,o1,o2,e3,emp]
  show j9 l&&true=true
  rw [ok];rfl
 ·unfold FW.ln U2
  dsimp only
  rw [aH,aH,aH]
 ·unfold FW.sp ON
  dsimp only
  rw [e1,e2]
theorem pG {V:View}{v:Value}{q:Rat}(h:RQ V v q):ab prog 59 #[v] V fun r V'=>r=.int .i64 q.num.sign:=by
 obtain ⟨_,_,_,_,_,_,rfl,h1,-⟩:=h
 exact tv q h1
theorem kW {V:View}{v:Value}{p:Rat×Rat}(h:RP V v p.1 p.2):ab prog 110 #[v] V fun r V'=>r=.int .i64 (ay.half p):=by
 obtain ⟨_,_,_,_,_,_,_,_,_,_,_,_,rfl,hx,hy⟩:=h
 refine xp _ _ _ _ _ _ _ _ _ _ _ _ _ _ V _ fun V1 l1=>(pG (hx.le l1)).mono ?_
 rintro r V2 l2 rfl
 refine ⟨_,rfl,fun V3 l3=>(pG (hy.le (l1.trans (l2.trans l3)))).mono ?_⟩
 rintro r V4 l4 rfl
 have key:∀z:Int,(z=if p.2.num.sign>0\/p.2.num.sign=0/\p.1.num.sign>0 then 1 else if p.2.num.sign<0\/p.1.num.sign<0 then 2 else 0)->Value.int .i64 z=.int .i64 (ay.half p):=fun z e=>by rw [e];rfl
 refine ⟨_,rfl,fun a=>?_,fun a=>?_⟩
 ·have a:p.1.num.sign=0:=by simpa using a
  refine ⟨fun b V5 l5=>key _ ?_,fun b=>⟨fun c V6 l6=>key _ ?_,fun c=>⟨fun d=>⟨fun e V7 l7=>key _ ?_,fun e V8 l8=>key _ ?_⟩,fun d V9 l9=>key _ ?_⟩⟩⟩
  ·have b:p.2.num.sign=0:=by simpa using b
   rw [if_neg (by omega),if_neg (by omega)]
  ·have c:p.2.num.sign>0:=of_decide_eq_true c
   rw [if_pos (.inl c)]
  ·have b:¬p.2.num.sign=0:=by simpa using b
   have d:p.2.num.sign=0:=by simpa using d
   exact absurd d b
  ·have b:¬p.2.num.sign=0:=by simpa using b
   have d:p.2.num.sign=0:=by simpa using d
   exact absurd d b
  ·have b:¬p.2.num.sign=0:=by simpa using b
   have c:¬p.2.num.sign>0:=of_decide_eq_false c
   rw [if_neg (by omega),if_pos (by omega)]
 ·have a:¬p.1.num.sign=0:=by simpa using a
  refine ⟨fun c V6 l6=>key _ ?_,fun c=>⟨fun d=>⟨fun e V7 l7=>key _ ?_,fun e V8 l8=>key _ ?_⟩,fun d V9 l9=>key _ ?_⟩⟩
  ·have c:p.2.num.sign>0:=of_decide_eq_true c
   rw [if_pos (.inl c)]
  ·have d:p.2.num.sign=0:=by simpa using d
   have e:p.1.num.sign>0:=of_decide_eq_true e
   rw [if_pos (.inr ⟨d,e⟩)]
  ·have d:p.2.num.sign=0:=by simpa using d
   have e:¬p.1.num.sign>0:=of_decide_eq_false e
   rw [if_neg (by omega),if_pos (by omega)]
  ·have d:¬p.2.num.sign=0:=by simpa using d
   have c:¬p.2.num.sign>0:=of_decide_eq_false c
   rw [if_neg (by omega),if_pos (by omega)]
theorem Lt (q:Rat):-1<=q.num.sign/\q.num.sign<=1:=by
 rcases Int.lt_trichotomy q.num 0 with h|h|h
 ·rw [Int.sign_eq_neg_one_of_neg h];omega
 ·rw [h];decide
 ·rw [Int.sign_eq_one_of_pos h];omega
theorem nQ {V:View}{v w:Value}{a b:Rat×Rat}(h:RP V v a.1 a.2)(h':RP V w b.1 b.2){k:Nat}(s1:Sz k a.1)(s2:Sz k a.2)(s3:Sz k b.1)(s4:Sz k b.2)(hk:4*k+4<274877906944) :
  ab prog 58 #[v,w] V fun r V'=>r=.int .i64 (ay.fA a b):=by
 have h0:=h
 have h0':=h'
 obtain ⟨_,_,_,_,_,_,_,_,_,_,_,_,rfl,-⟩:=h
 obtain ⟨_,_,_,_,_,_,_,_,_,_,_,_,rfl,-⟩:=h'
 refine vR _ _ _ _ _ _ _ _ _ _ _ _ _ _ _ _ _ _ _ _ _ _ _ _ _ _ _ _ V _ fun V1 l1=>(kW (h0.le l1)).mono ?_
 rintro r V2 l2 rfl
 refine ⟨_,rfl,fun V3 l3=>(kW (h0'.le (l1.trans (l2.trans l3)))).mono ?_⟩
 rintro r V4 l4 rfl
 have dN:=l1.trans (l2.trans (l3.trans l4))
 refine ⟨_,rfl,fun g=>⟨fun g' V5 l5=>?_,fun g' V6 l6=>?_⟩,fun g V7 l7=>(nR (h0.le (dN.trans l7)) (h0'.le (dN.trans l7)) s1 s2 s3 s4 hk).mono ?_⟩
 ·unfold ay.fA;rw [if_pos (of_decide_eq_true g')]
 ·have g:ay.half a≠ay.half b:=by simpa using g
  have g':¬ay.half a<ay.half b:=of_decide_eq_false g'
  unfold ay.fA;rw [if_neg g',if_pos (by omega)]
 ·have g:ay.half a=ay.half b:=by simpa using g
  rintro r V8 l8 gc
  have Kz:=gc
  obtain ⟨_,_,_,_,_,_,rfl⟩:=gc.shape
  refine ⟨_,_,_,_,_,_,_,rfl,fun V9 l9=>(pG (Kz.le l9)).mono ?_⟩
  rintro r g_ l10 rfl
  refine ⟨_,rfl,fun gW bI=>?_⟩
  have bd:=Lt (a.1*b.2-a.2*b.1)
  rw [ar (by omega)]
  unfold ay.fA;rw [if_neg (by omega),if_neg (by omega)]
  show _=Value.int .i64 (-(a.1*b.2-a.2*b.1).num.sign)
  congr 1;omega
theorem AM {V:View}{v:Value}{p:Rat×Rat}(h:RP V v p.1 p.2){k:Nat}(s1:Sz k p.1)(s2:Sz k p.2)(hk:k<=1099511627776):ab prog 57 #[v] V fun r V'=>RP V' r (-p.1) (-p.2):=by
 obtain ⟨_,_,_,_,_,_,_,_,_,_,_,_,rfl,hx,hy⟩:=h
 refine Af _ _ _ _ _ _ _ _ _ _ _ _ _ _ V _ fun V1 l1=>(iL (hx.le l1) s1 hk).mono ?_
 rintro r V2 l2 g
 have g0:=g
 obtain ⟨_,_,_,_,_,_,rfl⟩:=g.shape
 refine ⟨_,_,_,_,_,_,_,rfl,fun V3 l3=>(iL (hy.le (l1.trans (l2.trans l3))) s2 hk).mono ?_⟩
 rintro r V4 l4 g'
 have g0':=g'
 obtain ⟨_,_,_,_,_,_,rfl⟩:=g'.shape
 exact ⟨_,_,_,_,_,_,_,rfl,fun V5 l5=>⟨_,_,_,_,_,_,_,_,_,_,_,_,rfl,g0.le (l3.trans (l4.trans l5)),g0'.le l5⟩⟩
theorem ug {V:View}{v w:Value}{z y:Int}(ha:RI V v z)(hb:RI V w y)(hm:(ai z.natAbs).length+(ai y.natAbs).length<=1099511627776):ab prog 75 #[v,w] V fun r V'=>RI V' r (z*y):=by
 obtain ⟨_,_,_,rfl,h1⟩:=ha
 obtain ⟨_,_,_,rfl,h2⟩:=hb
 exact iA z y h1 h2 hm
def mV (V:View)(v:Value)(l:L3):Prop:=RL V v l.1 l.2.1 l.2.2
theorem mV.le {V V':View}{v:Value}{l:L3}(h:mV V v l)(e:V.Le V'):mV V' v l:=RL.le h e
theorem fQ {V:View}{v:Value}{l:L3}(h:mV V v l):∃(b1:Bool)(p1:OA)(n1 c1:Nat)(b2:Bool)(p2:OA)(n2 c2:Nat)(b3:Bool)(p3:OA)(n3 c3:Nat),v=.agg #[.bool b1,.slice p1 n1 c1,.bool b2,.slice p2 n2 c2,.bool b3,.slice p3 n3 c3]:=by
 obtain ⟨_,_,_,_,_,_,_,_,_,e,-⟩:=h;exact ⟨_,_,_,_,_,_,_,_,_,_,_,_,e⟩
theorem zK {V:View}{xs:List Value}{l:L3}(h:mV V (.agg (List.toArray xs)) l):∀v∈xs,v.oneCell'=true:=by
 obtain ⟨_,_,_,_,_,_,_,_,_,_,_,_,e⟩:=fQ h
 have e:=congrArg Array.toList (Value.agg.inj e)
 dsimp only at e
 subst e
 intro v hm
 simp only [List.mem_cons,List.not_mem_nil,or_false] at hm
 rcases hm with rfl|rfl|rfl|rfl|rfl|rfl<;>rfl
theorem Sl {b:Bool}{p:OA}{n c:Nat}{b':Bool}{p':OA}{n' c':Nat}{b'':Bool}{p'':OA}{n'' c'':Nat}:∀v∈([.bool b,.slice p n c,.bool b',.slice p' n' c',.bool b'',.slice p'' n'' c'']:List Value),v.oneCell'=true:=by
 intro v hm
 simp only [List.mem_cons,List.not_mem_nil,or_false] at hm
 rcases hm with rfl|rfl|rfl|rfl|rfl|rfl<;>rfl
theorem jL:∀(t:Tr) {V:View} {p:OA},RW V p t->t.size<=1000000->ab prog 54 #[.pointer p] V fun r V'=>∃q n c,r=.slice q n c/\og 6 mV V' q n t.qF
 | .leaf i,V,p,h,hs=>by
  obtain ⟨s,e0,-⟩:=I5 h
  exact mQ p V _ ⟨s,s,_,e0,fun _ V1 l1=>⟨_,_,_,rfl,og.nil⟩,(fun h=>nomatch h)⟩
 | .node ln a b,V,p,h,hs=>by
  have h0:=h
  obtain ⟨bb,i,b1,p1,n1,c1,b2,p2,n2,c2,b3,p3,n3,c3,pl,pr,rfl,hb,hl,ha,hbb⟩:=h
  have hat:∀j v,([.bool false,.bool i,.bool b1,.slice p1 n1 c1,.bool b2,.slice p2 n2 c2,.bool b3,.slice p3 n3 c3,.pointer pl,.pointer pr]:List Value)[j]?=some v->V.at ((⟨bb,0,none⟩:Addr).add j) v:=by
   intro j v hv;rw [add_zero'];exact cU (xs:=[_,_,_,_,_,_,_,_,_,_]) hb hv
  have ha2:∀j v,([.bool b1,.slice p1 n1 c1,.bool b2,.slice p2 n2 c2,.bool b3,.slice p3 n3 c3]:List Value)[j]?=some v->V.at (((⟨bb,0,none⟩:Addr).add 2).add j) v:=by
   intro j v hv
   rw [Cw]
   refine hat (2+j) v ?_
   have hj:j<6:=(List.getElem?_eq_some_iff.1 hv).1
   match j,hj,hv with
   | 0,_,h=>exact h
   | 1,_,h=>exact h
   | 2,_,h=>exact h
   | 3,_,h=>exact h
   | 4,_,h=>exact h
   | 5,_,h=>exact h
  simp only [Tr.size] at hs
  have la:=lg a
  have lb:=lg b
  refine mQ _ V _ ⟨rfl,rfl,false,BE hb 0 rfl,(fun h=>nomatch h),fun _=>⟨rfl,rfl,_,_,_,_,_,_,_,_,_,_,_,_,(⟨bb,0,none⟩:Addr).add 2,rfl,ha2 0 _ rfl,ha2 1 _ rfl,ha2 2 _ rfl,ha2 3 _ rfl,ha2 4 _ rfl,ha2 5 _ rfl,rfl,rfl,pl,BE hb 8 rfl,rfl,rfl,pr,BE hb 9 rfl,fun V2 l2=>(jL a (ha.le l2) (by omega)).mono ?_⟩⟩
  rintro r V3 l3 ⟨q,n,c,rfl,g⟩
  obtain rfl:=g.len
  obtain ⟨xs,x1,x2,x3⟩:=yl g (by decide)
  have oc:∀v∈xs,v.oneCell'=true:=fun v hv=>by
   obtain ⟨m,hm,rfl⟩:=List.mem_iff_getElem.1 hv
   exact lC x3 (by decide) (fun _ _=>zK) (by omega) (List.getElem?_eq_getElem hm)
  have r1:Row 6 mV V3 ([.bool b1,.slice p1 n1 c1,.bool b2,.slice p2 n2 c2,.bool b3,.slice p3 n3 c3]:List Value) [ln]:=row_one rfl (hl.le (l2.trans l3))
  refine ⟨_,_,_,rfl,xs,x1,x2,by omega,Nat.le_refl _,Nat.le_refl 6,x2,oc,fun bk J sp c' h1 h2 V4 l4=>(jL b (hbb.le (l2.trans (l3.trans l4))) (by omega)).mono ?_⟩
  rintro r V5 l5 ⟨q',n',c'',rfl,g'⟩
  obtain rfl:=g'.len
  obtain ⟨ys,y1,y2,y3⟩:=yl g' (by decide)
  have Xq:∀v∈ys,v.oneCell'=true:=fun v hv=>by
   obtain ⟨m,hm,rfl⟩:=List.mem_iff_getElem.1 hv
   exact lC y3 (by decide) (fun _ _=>zK) (by omega) (List.getElem?_eq_getElem hm)
  have r2:=oK (sp:=sp) r1 x3 (by decide)
  have hl2:([ln]++a.qF).length=1+a.qF.length:=by simp;omega
  have r3:=oK (sp:=[]) (r2.le fun _ _ g=>mV.le g (l4.trans l5)) y3 (by decide)
  rw [hl2] at r3
  refine ⟨_,_,_,rfl,ys,y1,y2,by omega,h1,?_,y2,Xq,fun bk2 J2 sp2 c3' h3 h4 V6 l6 HW hbk=>⟨_,_,_,rfl,?_⟩⟩
  ·simp only [List.length_append,List.length_take,List.length_cons,List.length_nil,x2]
   omega
  ·have r4:=oK (sp:=sp2) (r2.le fun _ _ g=>mV.le g (l4.trans l5)) y3 (by decide)
   rw [hl2] at r4
   have:=og.zo hbk (r4.le fun _ _ g=>mV.le g l6)
   have hl3:([ln]++a.qF++b.qF).length=1+a.qF.length+b.qF.length:=by rw [List.length_append,hl2]
   rw [hl3] at this
   exact this
def ko (x:L3):List L3->List L3
 | []=>[x]
 | y::r=>if oB y x<0 then y::ko x r else if y=x then y::r else x::y::r
theorem Iy {x:L3}:∀(o:List L3)(k:Nat),k<=o.length->(∀j (h:j<o.length),j<k->oB o[j] x<0)->(∀h:k<o.length,¬oB o[k] x<0) ->
  ko x o=if (∃h:k<o.length,o[k]=x) then o else o.take k++x::o.drop k:=by
 intro o
 induction o with
 | nil=>
  intro k hk _ _
  obtain rfl:k=0:=by simpa using hk
  simp [ko]
 | cons y r ih=>
  intro k hk hlt hge
  cases k with
  | zero=>
   have h0:¬oB y x<0:=hge (by simp)
   unfold ko
   rw [if_neg h0]
   by_cases e:y=x
   ·rw [if_pos e,if_pos ⟨by simp,e⟩]
   ·rw [if_neg e,if_neg (by rintro ⟨_,h⟩;exact e h)]
    rfl
  | succ k=>
   have h0:oB y x<0:=hlt 0 (by simp) (by omega)
   unfold ko
   rw [if_pos h0,ih k (by simpa using hk) (fun j h hj=>hlt (j+1) (by simpa using h) (by omega)) (fun h=>hge (by simpa using h))]
   by_cases e:∃h:k<r.length,r[k]=x
   ·obtain ⟨h1,h2⟩:=e
    rw [if_pos ⟨h1,h2⟩,if_pos ⟨by simpa using h1,h2⟩]
   ·rw [if_neg e,if_neg (by rintro ⟨h1,h2⟩;exact e ⟨by simpa using h1,h2⟩)]
    rfl
def cS (l:List L3):List L3:=l.foldl (fun o x=>ko (cJ x) o) []
theorem CQ {l:List L3}{i:Nat}(h:i<l.length):cS (l.take (i+1))=ko (cJ l[i]) (cS (l.take i)):=by
 unfold cS
 rw [List.take_add_one,List.getElem?_eq_getElem h,List.foldl_append]
 rfl
theorem Bg (x:L3):∀o:List L3,(ko x o).length<=o.length+1
 | []=>by simp [ko]
 | y::r=>by
  have:=Bg x r
  unfold ko
  split
  ·simp;omega
  ·split<;>simp
theorem qY (l:List L3):(cS l).length<=l.length:=by
 have:∀(l o:List L3),(l.foldl (fun o x=>ko (cJ x) o) o).length<=o.length+l.length:=by
  intro l
  induction l with
  | nil=>intro o;simp
  | cons x r ih=>
   intro o
   have h1:=ih (ko (cJ x) o)
   have h2:=Bg (cJ x) o
   simp only [List.foldl_cons,List.length_cons]
   omega
 have:=this l []
 simpa [cS] using this
def Bn (a b:L3):Prop:=oB a b<0
theorem N1 {a b c:L3}(h:Bn a b)(h':Bn b c):Bn a c:=by unfold Bn at *;rw [zb] at *;omega
theorem NY {a b:L3}(h:Bn a b)(h':Bn b a):False:=by unfold Bn at *;rw [zb] at *;omega
theorem NZ {a:L3}(h:Bn a a):False:=NY h h
theorem N0 {a b:L3}(h:¬Bn a b)(hne:a≠b):Bn b a:=by
 have:¬(a.1=b.1/\a.2.1=b.2.1/\a.2.2=b.2.2):=fun ⟨e1,e2,e3⟩=>hne (Prod.ext e1 (Prod.ext e2 e3))
 unfold Bn at *
 rw [zb] at *
 omega
theorem uH {x y:L3}:∀{o:List L3},y∈ko x o↔y=x\/y∈o
 | []=>by simp [ko]
 | z::r=>by
  unfold ko
  split
  ·simp only [List.mem_cons,uH (o:=r)]
   constructor
   ·rintro (h|h|h)<;>simp [h]
   ·rintro (h|h|h)<;>simp [h]
  ·split
   ·rename_i e;subst e;simp
   ·simp
theorem Bf {x:L3}:∀{o:List L3},o.Pairwise Bn->(ko x o).Pairwise Bn
 | [],_=>List.pairwise_singleton _ _
 | z::r,h=>by
  obtain ⟨h1,h2⟩:=List.pairwise_cons.1 h
  unfold ko
  split
  ·rename_i hz
   refine List.pairwise_cons.2 ⟨fun y hy=>?_,Bf h2⟩
   rcases uH.1 hy with rfl|hy
   ·exact hz
   ·exact h1 y hy
  ·rename_i hz
   split
   ·exact h
   ·rename_i hne
    have hx:Bn x z:=N0 hz hne
    refine List.pairwise_cons.2 ⟨fun y hy=>?_,h⟩
    rcases List.mem_cons.1 hy with rfl|hy
    ·exact hx
    ·exact N1 hx (h1 y hy)
theorem iN (l:List L3):(cS l).Pairwise Bn/\∀x,x∈cS l↔x∈l.map cJ:=by
 have:∀(l o:List L3),o.Pairwise Bn->(l.foldl (fun o x=>ko (cJ x) o) o).Pairwise Bn/\∀x,x∈l.foldl (fun o x=>ko (cJ x) o) o↔x∈o\/x∈l.map cJ:=by
  intro l
  induction l with
  | nil=>intro o h;exact ⟨h,fun x=>by simp⟩
  | cons y r ih=>
   intro o h
   obtain ⟨h1,h2⟩:=ih (ko (cJ y) o) (Bf h)
   refine ⟨h1,fun x=>?_⟩
   rw [List.foldl_cons,h2 x,uH,List.map_cons,List.mem_cons]
   constructor
   ·rintro ((h|h)|h)<;>simp [h]
   ·rintro (h|h|h)<;>simp [h]
 obtain ⟨h1,h2⟩:=this l [] List.Pairwise.nil
 exact ⟨h1,fun x=>by rw [cS,h2 x];simp⟩
theorem wD {V:View}{v:Value}{l:L3}(h:mV V v l):ab prog 108 #[v] V fun r V'=>∃w b,r=.tuple #[w,.bool b]/\mV V' w (cJ l):=by
 have h0:=h
 obtain ⟨p1,n1,c1,p2,n2,c2,p3,n3,c3,rfl,h1,h2,h3⟩:=h
 have rev:∀(V3:View),V.Le V3->(l.1<0\/l.1=0/\l.2.1<0)->ab prog 158 #[.agg #[.bool (decide (l.1<0)),.slice p1 n1 c1,.bool (decide (l.2.1<0)),.slice p2 n2 c2,.bool (decide (l.2.2<0)),.slice p3 n3 c3]] V3 fun r V'=>mV V' r (cJ l):=fun V3 l3 hc=>by
  refine (AO (a:=l.1) (b:=l.2.1) (c:=l.2.2) (h0.le l3)).mono ?_
  rintro r V4 l4 g
  unfold cJ
  rw [if_pos hc]
  exact g
 refine vS _ _ _ _ _ _ _ _ _ _ _ _ V _ fun V1 l1=>(kU l.1 (h1.le l1)).mono ?_
 rintro r V2 l2 rfl
 have L2:=l1.trans l2
 refine ⟨_,rfl,fun hc V3 l3=>(rev V3 (L2.trans l3) (.inl (Int.sign_neg_iff.1 (of_decide_eq_true hc)))).mono ?_,fun hc=>⟨fun h0' V6 l6=>(kU l.2.1 (h2.le (L2.trans l6))).mono ?_,fun hne lH cw=>?_⟩⟩
 ·rintro r V4 l4 g
  have g0:=g
  obtain ⟨_,_,_,_,_,_,_,_,_,_,_,_,rfl⟩:=fQ g
  exact ⟨_,_,_,_,_,_,_,_,_,_,_,_,rfl,fun V5 l5=>⟨_,_,rfl,g0.le l5⟩⟩
 ·have hz:l.1=0:=Int.sign_eq_zero_iff_zero.1 (by simpa using h0')
  rintro r V7 l7 rfl
  have L7:=L2.trans (l6.trans l7)
  refine ⟨_,rfl,fun hd V8 l8=>(rev V8 (L7.trans l8) (.inr ⟨hz,Int.sign_neg_iff.1 (of_decide_eq_true hd)⟩)).mono ?_,fun hd gW bI=>⟨_,_,rfl,?_⟩⟩
  ·rintro r V9 l9 g
   have g0:=g
   obtain ⟨_,_,_,_,_,_,_,_,_,_,_,_,rfl⟩:=fQ g
   exact ⟨_,_,_,_,_,_,_,_,_,_,_,_,rfl,fun g_ l10=>⟨_,_,rfl,g0.le l10⟩⟩
  ·have hd:=of_decide_eq_false hd
   unfold cJ
   rw [if_neg fun h=>hd (Int.sign_neg_iff.2 (h.elim (fun h=>by omega) (·.2)))]
   exact h0.le (L7.trans bI)
 ·have hc:=of_decide_eq_false hc
  have hne:¬l.1=0:=fun e=>by rw [e] at hne;simp at hne
  refine ⟨_,_,rfl,?_⟩
  unfold cJ
  rw [if_neg fun h=>h.elim (fun h=>hc (Int.sign_neg_iff.2 h)) (fun h=>hne h.1)]
  exact h0.le (L2.trans cw)
theorem Hf {V:View}{vs:List Value}{ls:List L3}(h:Row 6 mV V vs ls){i:Nat}(hi:i<ls.length):∃b1 p1 n1 c1 b2 p2 n2 c2 b3 p3 n3 c3,i*6+6<=vs.length/\(vs.drop (i*6)).take 6=[Value.bool b1,.slice p1 n1 c1,.bool b2,.slice p2 n2 c2,.bool b3,.slice p3 n3 c3] /\
  mV V (.agg #[.bool b1,.slice p1 n1 c1,.bool b2,.slice p2 n2 c2,.bool b3,.slice p3 n3 c3]) ls[i]:=by
 obtain ⟨xs,h1,h2,h3⟩:=h.at_ i hi
 have hl:=h.fl (by decide)
 have h20:=h2
 obtain ⟨_,_,_,_,_,_,_,_,_,_,_,_,e⟩:=fQ h2
 have e:=congrArg Array.toList (Value.agg.inj e)
 dsimp only at e
 subst e
 refine ⟨_,_,_,_,_,_,_,_,_,_,_,_,by omega,?_,h20⟩
 apply List.ext_getElem?
 intro j
 rw [List.getElem?_take]
 split
 ·rename_i hj
  rw [List.getElem?_drop]
  exact h3 j _ (List.getElem?_eq_getElem (by show j<6;omega))▸(List.getElem?_eq_getElem (by show j<6;omega)).symm
 ·rename_i hj
  rw [List.getElem?_eq_none (by show 6<=j;omega)]
set_option maxHeartbeats 1000000 in
theorem qT {V:View}{p:OA}{n c:Nat}{ls:List L3}(h:og 6 mV V p n ls)(hn:ls.length<100000000)(hs:∀l∈ls,Bd l) :
  ab prog 53 #[.slice p n c] V fun r V'=>∃q m e,r=.slice q m e/\og 6 mV V' q m (cS ls):=by
 obtain rfl:=h.len
 refine qC p _ c V _ ⟨fun z V'=>∃i:Nat,z.2.2.2=(i:Int)/\i<=ls.length/\GR 6 mV V' z.1 z.2.1 z.2.2.1 (cS (ls.take i)),fun z=>ls.length-z.2.2.2.toNat,
  ⟨(0,0,[],0),by and_intros<;>rfl,0,rfl,Nat.zero_le _,GR.nil⟩,?_⟩
 rintro ⟨w1,w2,us,z4⟩ V1 l1 ⟨i,e4,YY,hg⟩
 dsimp only at e4 hg
 subst e4
 have g1:=hg.len
 have fc:=hg.le
 have fv:=hg.cap
 have fx:=hg.row
 refine ⟨rfl,fun hlt=>?_,fun hlt lU cd bk hb=>?_⟩
 rotate_left
 ·have hlt:¬(i:Int)<ls.length:=of_decide_eq_false hlt
  obtain rfl:i=ls.length:=by omega
  rw [List.take_length] at g1 fx
  subst g1
  exact ⟨_,_,_,rfl,og.tE hb (fx.le fun _ _ g=>mV.le g cd) (by decide) fc⟩
 have hlt:(i:Int)<ls.length:=of_decide_eq_true hlt
 have hi:i<ls.length:=by omega
 have w:i64.wrap ((i:Int)+1)=((i+1:Nat):Int):=by rw [ar (by omega)];rfl
 dsimp only
 rw [Int.toNat_natCast,w]
 obtain ⟨ad,ha,xs,-,hf,hat⟩:=(h.le l1 fun _ _ g=>mV.le g l1).at_ i hi
 have hf0:=hf
 obtain ⟨_,_,_,_,_,_,_,_,_,_,_,_,ex⟩:=fQ hf
 have ex:=congrArg Array.toList (Value.agg.inj ex)
 dsimp only at ex
 subst ex
 have UB:=CQ hi
 have hss:Bd (cJ ls[i]):=(hs _ (List.getElem_mem hi)).can
 have YR:(cS (ls.take i)).length<100000000:=by
  have:=qY (ls.take i)
  rw [List.length_take] at this
  omega
 have UC:∀q∈cS (ls.take i),Bd q:=fun q hq=>by
  obtain ⟨y,hy,rfl⟩:=List.mem_map.1 ((iN _).2 q |>.1 hq)
  exact (hs y (List.mem_of_mem_take hy)).can
 clear hg
 generalize cS (ls.take i)=O at *
 refine ⟨Bh ha,⟨by omega,by omega⟩,_,_,_,_,_,_,_,_,_,_,_,_,ad,ha,hat 0 _ rfl,hat 1 _ rfl,hat 2 _ rfl,hat 3 _ rfl,hat 4 _ rfl,hat 5 _ rfl,fun V2 l2=>(wD (hf0.le l2)).mono ?_⟩
 generalize cJ ls[i]=x at *
 rintro r V3 l3 ⟨wv,bc,rfl,hq⟩
 have hq0:=hq
 obtain ⟨eb,ep,en,ec,fb,fp,fn,fe,gb,gp,gn,gc,rfl⟩:=fQ hq
 refine ⟨_,_,_,_,_,_,_,_,_,_,_,_,_,rfl,fun z _=>∃j:Nat,z=(j:Int)/\j<=O.length/\∀(i':Nat)(h:i'<O.length),i'<j->oB O[i'] x<0,fun z=>O.length-z.toNat,⟨0,by and_intros<;>rfl,0,rfl,Nat.zero_le _,fun i' _ h=>absurd h (Nat.not_lt_zero i')⟩,?_⟩
 rintro z V4 l4 ⟨j,rfl,US,jl⟩
 have wj:i64.wrap ((j:Int)+1)=((j+1:Nat):Int):=by rw [ar (by omega)];rfl
 rw [Int.toNat_natCast,wj]
 have dN:=l2.trans (l3.trans l4)
 refine ⟨rfl,fun z _=>z=true↔∃h:j<O.length,oB O[j] x<0,⟨fun hlt=>?_,fun hlt=>⟨false,by and_intros<;>rfl,?_⟩⟩,?_⟩
 ·have hlt:(j:Int)<(w1:Int):=of_decide_eq_true hlt
  have hj:j<O.length:=by omega
  obtain ⟨b1,p1,n1,c1,b2,p2,n2,c2,b3,p3,n3,c3,fD,Qt,hr⟩:=Hf fx hj
  refine ⟨⟨by omega,by omega⟩,fc,b1,p1,n1,c1,b2,p2,n2,c2,b3,p3,n3,c3,⟨fD,Qt⟩,fun V5 l5=>(rO (hr.le (dN.trans l5)) (hq0.le (l4.trans l5)) (UC _ (List.getElem_mem hj)).Jf hss.Jf (by omega)).mono ?_⟩
  rintro r V6 l6 rfl
  exact ⟨_,rfl,_,by and_intros<;>rfl,by dsimp only;rw [decide_eq_true_eq];exact ⟨fun h=>⟨hj,h⟩,fun ⟨_,h⟩=>h⟩⟩
 ·have hlt:¬(j:Int)<(w1:Int):=of_decide_eq_false hlt
  exact ⟨(fun h=>nomatch h),fun ⟨h,_⟩=>absurd h (by omega)⟩
 rintro z V7 l7 UR
 refine ⟨rfl,fun hz=>?_,fun hz=>?_⟩
 ·obtain ⟨hj,hx'⟩:=UR.1 hz
  refine ⟨((j+1:Nat):Int),by dsimp only;omega,by and_intros<;>rfl,j+1,rfl,hj,fun i' h hi'=>?_⟩
  by_cases e:i'=j
  ·subst e;exact hx'
  ·exact jl i' h (by omega)
 have hge:∀h:j<O.length,¬oB O[j] x<0:=fun h h'=>by
  have:=UR.2 ⟨h,h'⟩
  rw [hz] at this;cases this
 have hins:=Iy O j US jl hge
 have cP:=dN.trans l7
 refine ⟨fun z _=>z=true↔¬∃h:j<O.length,O[j]=x,⟨fun he=>⟨true,by and_intros<;>rfl,?_⟩,fun he=>?_⟩,?_⟩
 ·have he:(j:Int)=(w1:Int):=by simpa using he
  exact ⟨fun _ ⟨h,_⟩=>absurd h (by omega),fun _=>rfl⟩
 ·have he:¬(j:Int)=(w1:Int):=by simpa using he
  have hj:j<O.length:=by omega
  obtain ⟨b1,p1,n1,c1,b2,p2,n2,c2,b3,p3,n3,c3,fD,Qt,hr⟩:=Hf fx hj
  refine ⟨⟨by omega,by omega⟩,fc,b1,p1,n1,c1,b2,p2,n2,c2,b3,p3,n3,c3,⟨fD,Qt⟩,fun V8 l8=>(rO (hr.le (cP.trans l8)) (hq0.le (l4.trans (l7.trans l8))) (UC _ (List.getElem_mem hj)).Jf hss.Jf (by omega)).mono ?_⟩
  rintro r V9 l9 rfl
  exact ⟨_,rfl,_,by and_intros<;>rfl,by dsimp only;rw [bne_iff_ne,ne_eq,H_];exact ⟨fun h ⟨_,h'⟩=>h h',fun h h'=>h ⟨hj,h'⟩⟩⟩
 rintro z g_ l10 Nu
 have ND:=cP.trans l10
 refine ⟨rfl,fun hz gW bI bk hb J=>?_,fun hz=>?_⟩
 ·have hne:=Nu.1 hz
  rw [if_neg hne] at hins
  have YN:=fx.fl (by decide)
  have Qv:=fx.le (V':=gW) fun _ _ g=>mV.le g (ND.trans bI)
  have hq12:=hq0.le (l4.trans (l7.trans (l10.trans bI)))
  have t1:(us.take (j*6)).length=j*6:=by rw [List.length_take];omega
  have t2:((us.take (O.length*6)).drop (j*6)).length=(w1-j)*6:=by rw [List.length_drop,List.length_take,g1];omega
  have oc:∀v∈(us.take (O.length*6)).drop (j*6),v.oneCell'=true:=by
   intro v pf
   obtain ⟨m,hm,e⟩:=List.mem_iff_getElem.1 (List.mem_of_mem_drop pf)
   have hm':m<O.length*6:=by rw [List.length_take] at hm;omega
   have:=List.getElem?_eq_getElem hm
   rw [e,List.getElem?_take,if_pos hm'] at this
   exact lC fx (by decide) (fun _ _=>zK) hm' this
  have hmem:0<w2->us≠[]:=fun hw e=>by rw [e] at fv;simp at fv;omega
  have It:0<w2->mA bk w2=some ⟨bk,0,none⟩:=fun hw=>by unfold mA;rw [if_neg (by omega)]
  have at_:∀m v,m<O.length*6->us[m]?=some v->gW.at ⟨bk,m,none⟩ v:=fun m v hm pf=>cU (hb (hmem (by omega))) pf
  refine ⟨⟨by omega,by omega⟩,⟨by omega,by omega⟩,⟨by omega,by omega⟩,(us.take (O.length*6)).drop (j*6),?_,t2,by omega,Nat.le_refl _,Nat.le_refl 6,t2,oc,fun bk2 J2 sp c' h1 h2=>?_⟩
  ·intro m v hm
   have hml:=(List.getElem?_eq_some_iff.1 hm).1
   rw [t2] at hml
   rw [List.getElem?_drop,List.getElem?_take,if_pos (by omega)] at hm
   have:=at_ (j*6+m) v (by omega) hm
   refine ⟨⟨bk,j*6,none⟩,?_,?_⟩
   ·unfold lZ
    rw [if_neg (by omega),It (by omega)]
    simp [ah,add_zero']
   ·rw [←add_zero',tP,add_zero'];exact this
  ·have hrl:([.bool eb,.slice ep en ec,.bool fb,.slice fp fn fe,.bool gb,.slice gp gn gc]++(us.take (O.length*6)).drop (j*6):List Value).length=(1+(w1-j))*6:=by
    rw [List.length_append,t2];simp only [List.length_cons,List.length_nil];omega
   have hrt:ck (([.bool eb,.slice ep en ec,.bool fb,.slice fp fn fe,.bool gb,.slice gp gn gc]:List Value).take (1*6)++(us.take (O.length*6)).drop (j*6)++sp) 0 ((1+(w1-j))*6)=[.bool eb,.slice ep en ec,.bool fb,.slice fp fn fe,.bool gb,.slice gp gn gc]++(us.take (O.length*6)).drop (j*6):=by
    have e3:(([.bool eb,.slice ep en ec,.bool fb,.slice fp fn fe,.bool gb,.slice gp gn gc]:List Value).take (1*6))=[.bool eb,.slice ep en ec,.bool fb,.slice fp fn fe,.bool gb,.slice gp gn gc]:=rfl
    rw [e3]
    unfold ck
    rw [Nat.ble_eq_true_of_le (by rw [List.length_append,hrl];omega),cond_true,List.drop_zero,List.take_append_of_le_length (by rw [hrl];exact Nat.le_refl _),List.take_of_length_le (by rw [hrl];exact Nat.le_refl _)]
   have hr3:(1+(w1-j))*6 / 6=1+(w1-j):=Nat.mul_div_cancel _ (by decide)
   rw [hrt,hrl,hr3]
   refine ⟨us.take (j*6),?_,t1,Nat.le_refl _,?_,by omega,by omega,rfl,?_,fun sp2 c2' h3 h4=>⟨(j+(1+(w1-j)),c2',_,((i+1:Nat):Int)),by dsimp only;omega,by and_intros<;>first|rfl|omega,i+1,rfl,hi,?_⟩⟩
   ·intro m v hm
    have hml:=(List.getElem?_eq_some_iff.1 hm).1
    rw [t1] at hml
    rw [List.getElem?_take,if_pos hml] at hm
    exact ⟨⟨bk,0,none⟩,It (by omega),by rw [add_zero'];exact at_ m v (by omega) hm⟩
   ·intro hN
    by_cases hw:0<w2
    ·rw [It hw] at hN;cases hN
    ·omega
   ·intro v pf
    rcases List.mem_append.1 pf with pf|pf
    ·exact Sl v pf
    ·exact oc v pf
   ·show GR 6 mV _ _ _ _ (cS (ls.take (i+1)))
    rw [UB,hins]
    refine ⟨?_,h3,?_,Dm Qv US rfl hq12 (by decide)⟩
    ·show j+(1+(w1-j))=_
     rw [List.length_append,List.length_take,List.length_cons,List.length_drop]
     omega
    ·dsimp only
     rw [List.length_append,List.length_append,t1,hrl]
     omega
 ·have hex:∃h:j<O.length,O[j]=x:=Classical.byContradiction fun h=>by have:=Nu.2 h;rw [hz] at this;cases this
  rw [if_pos hex] at hins
  refine ⟨(w1,w2,us,((i+1:Nat):Int)),by dsimp only;omega,by and_intros<;>rfl,i+1,rfl,hi,?_⟩
  show GR 6 mV _ _ _ _ (cS (ls.take (i+1)))
  rw [UB,hins]
  exact ⟨g1,fc,fv,fx.le fun _ _ g=>mV.le g ND⟩
theorem nS {V:View}{p:OA}{t:Tr}(h:RW V p t)(ha:t.lG Ft)(hs:t.size<=1000000):ab prog 18 #[.pointer p] V fun r V'=>∃q n c,r=.slice q n c/\og 6 mV V' q n (cS t.qF):=by
 refine vW p V _ fun V1 l1=>(jL t (h.le l1) hs).mono ?_
 rintro r V2 l2 ⟨q,n,c,rfl,g⟩
 refine ⟨_,_,_,rfl,fun V3 l3=>(qT (g.le l3 fun _ _ g=>mV.le g l3) (by rw [lg];omega) fun l hl=>(jx ha l hl).2).mono ?_⟩
 rintro r V4 l4 ⟨q',m,e,rfl,g'⟩
 exact ⟨_,_,_,rfl,fun V5 l5=>⟨_,_,_,rfl,g'.le l5 fun _ _ g=>mV.le g l5⟩⟩
theorem zl {V:View}{p:OA}{n:Nat}{al:List L3}(h:og 6 mV V p n al){i:Nat}(hi:i<al.length) :
  p.isSome=true/\∃(b1:Bool)(p1:OA)(n1 c1:Nat)(b2:Bool)(p2:OA)(n2 c2:Nat)(b3:Bool)(p3:OA)(n3 c3:Nat)(a:Addr),ah p (i*6)=some a/\V.at (a.add 0) (.bool b1)/\V.at (a.add 1) (.slice p1 n1 c1)/\V.at (a.add 2) (.bool b2)/\V.at (a.add 3) (.slice p2 n2 c2)/\V.at (a.add 4) (.bool b3)/\V.at (a.add 5) (.slice p3 n3 c3) /\
   mV V (.agg #[.bool b1,.slice p1 n1 c1,.bool b2,.slice p2 n2 c2,.bool b3,.slice p3 n3 c3]) al[i]:=by
 obtain ⟨ad,h0,xs,h1,h2,h3⟩:=h.at_ i hi
 have h20:=h2
 obtain ⟨_,_,_,_,_,_,_,_,_,_,_,_,e⟩:=fQ h2
 have e:=congrArg Array.toList (Value.agg.inj e)
 dsimp only at e
 subst e
 refine ⟨?_,_,_,_,_,_,_,_,_,_,_,_,_,ad,h0,h3 0 _ rfl,h3 1 _ rfl,h3 2 _ rfl,h3 3 _ rfl,h3 4 _ rfl,h3 5 _ rfl,h20⟩
 cases p with
 | none=>cases h0
 | some a=>rfl
theorem Jd {l m:L3}{k:Nat}(sl:yH k l)(sm:yH k m):Sz (20*k+20) (PJ l m)/\Sz (20*k+20) (PK l m):=by
 unfold PJ PK jM
 obtain ⟨a1,a2,a3⟩:=sl
 obtain ⟨b1,b2,b3⟩:=sm
 exact ⟨(Sz.mul ((a2.mul b3).sub (a3.mul b2)) (iZ ((a1.mul b2).sub (a2.mul b1)))).mono (by omega),(Sz.mul ((a3.mul b1).sub (a1.mul b3)) (iZ ((a1.mul b2).sub (a2.mul b1)))).mono (by omega)⟩
theorem ux {q:L3->Prop}(hq:∀l,q l->q (cJ l)){ls:List L3}(h:∀l∈ls,q l):∀l∈cS ls,q l:=fun l hl=>by
 obtain ⟨m,hm,rfl⟩:=List.mem_map.1 ((iN ls).2 l |>.1 hl)
 exact hq m (h m hm)
theorem K_ {l:L3}(h:Nz l):Nz (cJ l):=by
 unfold cJ
 split
 ·unfold Nz wR at *
  intro ⟨a,b⟩
  exact h ⟨by simpa using a,by simpa using b⟩
 ·exact h
theorem yV {V:View}{tb:Nat}{lp:OA}{n c:Nat}{at_:Int}(hr:Ep V lp n)(hn:n<=400)(hw:lT V tb lp n c at_)(hx:V.X tb)(h0:0<=at_){q:OA}{t:Tr}(h:RW V q t)(ha:t.lG Ft)(hs:t.size<=1000) :
  ab prog 12 #[.pointer (some ⟨tb,0,none⟩),.pointer q] V fun r V'=>∃(p:Rat×Rat)(at':Int),RP V' r p.1 p.2/\Sz 60000 p.1/\Sz 60000 p.2/\0<=at'/\lT V' tb lp n c at':=by
 have hb:∀l∈cS t.qF,Bd l:=ux (fun _ h=>h.can) fun l hl=>(jx ha l hl).2
 have hz:∀l∈cS t.qF,Nz l:=ux (fun _ h=>K_ h) fun l hl=>Lb (jx ha l hl).1
 have hlen:(cS t.qF).length<=1000:=by have:=qY t.qF;rw [lg] at this;omega
 refine xg tb lp n c at_ q V _ hw hx fun V1 l1=>(nS (h.le l1) ha (by omega)).mono ?_
 rintro r V2 l2 ⟨ps,m,e,rfl,hL⟩
 generalize cS t.qF=L at *
 have hm:=hL.len
 subst hm
 have uM:=l1.trans l2
 have any:∀{W W':View} {bk:Nat} {a:Int},V.Le W->0<=a->lT W bk lp n c a->W.H bk->ab prog 43 #[.pointer (some ⟨bk,0,none⟩)] (W.au [bk]) fun r V'=>∃(x y:Rat)(at':Int),RP V' r x y/\Sz 10 x/\Sz 10 y/\0<=at'/\lT V' bk lp n c at':=fun {W _ bk a} lw a0 hw hh=>
  H4 (V:=W.au [bk]) (hr.le fun b o h=>lw b o h) hn hw ⟨by simp,hh⟩ a0
 refine ⟨_,_,_,rfl,fun g V3 l3 bk e1 e2=>(any (W':=V) (uM.trans l3) h0 e1 e2).mono ?_,fun g V6 l6 bk e1 e2=>?_⟩
 ·rintro r V4 l4 ⟨x,y,at',hp,sx,sy,t0,hw'⟩
  have hp0:=hp
  obtain ⟨_,_,_,_,_,_,_,_,_,_,_,_,rfl,-⟩:=hp
  exact ⟨_,_,_,_,_,_,_,_,_,_,_,_,_,_,rfl,_,_,_,_,hw',fun V5 l5 e5=>⟨(x,y),at',hp0.le fun b o h=>l5 b o h,sx.mono (by omega),sy.mono (by omega),t0,e5⟩⟩
 have g:0<L.length:=by
  have g:¬((L.length:Nat):Int)=0:=by simpa using g
  omega
 refine (jJ (V:=V6.au [bk]) (L.length:Int) (hr.le fun b o h=>l6 b o (uM b o h)) hn e1 ⟨by simp,e2⟩ h0 (by omega) (by omega)).mono ?_
 rintro r V7 l7 ⟨x,FD,rfl,x0,x1,t1,hw1⟩
 obtain ⟨i,rfl⟩:∃i:Nat,x=i:=⟨x.toNat,by omega⟩
 have hi:i<L.length:=by omega
 have lY:V2.Le V7.shut:=fun b o h=>l7 b o (l6 b o h)
 obtain ⟨is,b1,p1,n1,c1,b2,p2,n2,c2,b3,p3,n3,c3,a,had,a0,a1,a2,a3,a4,a5,hl1⟩:=zl (hL.le lY fun _ _ g=>mV.le g lY) hi
 have sl1:=(hb _ (List.getElem_mem hi)).Jf
 have Xp:=hz _ (List.getElem_mem hi)
 generalize L[i]=A at *
 refine ⟨_,rfl,_,_,_,_,hw1,is,⟨by omega,by omega⟩,b1,p1,n1,c1,b2,p2,n2,c2,b3,p3,n3,c3,a,had,a0,a1,a2,a3,a4,a5,fun V8 l8 bk2 e3 e4=>(jJ (V:=V8.au [bk2]) 3 (hr.le fun b o h=>l8 b o (lY b o (uM b o h))) hn e3 ⟨by simp,e4⟩ t1 (by omega) (by omega)).mono ?_⟩
 rintro r V9 l9 ⟨y,at2,rfl,y0,y1,t2,hw2⟩
 have tB:∀{W:View},V9.shut.Le W->V2.Le W:=fun l b o h=>l b o (l9 b o (l8 b o (lY b o h)))
 have U0:∀{W:View},V9.shut.Le W->V7.shut.Le W:=fun l b o h=>l b o (l9 b o (l8 b o h))
 refine ⟨_,rfl,_,_,_,_,hw2,fun g1 g_ l10 HW e5 e6=>(jJ (V:=g_.au [HW]) (L.length:Int) (hr.le fun b o h=>tB l10 b o (uM b o h)) hn e5 ⟨by simp,e6⟩ t2 (by omega) (by omega)).mono ?_,fun g1=>⟨fun g2 qI dZ HW e5 e6=>(Qq (V:=qI.au [HW]) (hr.le fun b o h=>tB dZ b o (uM b o h)) hn e5 ⟨by simp,e6⟩ t2).mono ?_,fun g2 tM fB HW e5 e6=>(any (W':=V) (uM.trans (tB fB)) t2 e5 e6).mono ?_⟩⟩
 ·rintro r gW bI ⟨z,at3,rfl,z0,z1,t3,hw3⟩
  obtain ⟨j,rfl⟩:∃j:Nat,z=j:=⟨z.toNat,by omega⟩
  have hj:j<L.length:=by omega
  have K0:V2.Le gW.shut:=fun b o h=>bI b o (tB l10 b o h)
  obtain ⟨is,b1',Sn,n1',c1',b2',So,Sf,c2',b3',Sq,Sg,c3',a',Rd,a0',a1',Po,a3',a4',Wb,hl2⟩:=zl (hL.le K0 fun _ _ g=>mV.le g K0) hj
  have sl2:=(hb _ (List.getElem_mem hj)).Jf
  generalize L[j]=B at *
  have Sb:V7.shut.Le gW.shut:=fun b o h=>bI b o (U0 l10 b o h)
  refine ⟨_,rfl,_,_,_,_,hw3,is,⟨by omega,by omega⟩,b1',Sn,n1',c1',b2',So,Sf,c2',b3',Sq,Sg,c3',a',Rd,a0',a1',Po,a3',a4',Wb,fun lH cw=>(Lk (hl1.le (Sb.trans cw)) (hl2.le cw) sl1 sl2 (by omega)).mono ?_⟩
  rintro r lU cd ⟨u,rfl,q0,q1⟩
  obtain ⟨s1,s2⟩:=Jd sl1 sl2
  by_cases hc:jM A B=0
  ·have:=q0 hc
   unfold Jq at this
   subst this
   refine ⟨_,_,_,_,_,_,_,_,_,_,_,_,_,_,_,rfl,fun h=>by simp [hc] at h,fun _ nF dk Ko e7 e8=>(any (W':=V) (uM.trans (K0.trans (cw.trans (cd.trans dk)))) t3 e7 e8).mono ?_⟩
   rintro r mW dm ⟨x,y,at',hp,sx,sy,t0,hw'⟩
   have hp0:=hp
   obtain ⟨_,_,_,_,_,_,_,_,_,_,_,_,rfl,-⟩:=hp
   exact ⟨_,_,_,_,_,_,_,_,_,_,_,_,_,_,rfl,_,_,_,_,hw',fun V5 l5 e5=>⟨(x,y),at',hp0.le fun b o h=>l5 b o h,sx.mono (by omega),sy.mono (by omega),t0,e5⟩⟩
  ·have hp:=q1 hc
   have hp0:=hp
   obtain ⟨_,_,_,_,_,_,_,_,_,_,_,_,rfl,-⟩:=hp
   refine ⟨_,_,_,_,_,_,_,_,_,_,_,_,_,_,_,rfl,fun _ po dN e7=>⟨(PJ A B,PK A B),at3,hp0.le dN,s1.mono (by omega),s2.mono (by omega),t3,e7⟩,fun h=>by simp [hc] at h⟩
 ·rintro r tq dR ⟨qq,at3,hq,sq,t3,hw3⟩
  have hq0:=hq
  obtain ⟨_,_,_,_,_,_,rfl⟩:=hq.shape
  refine ⟨_,_,_,_,_,_,_,rfl,_,_,_,_,hw3,fun An iQ=>(SU (hl1.le fun b o h=>iQ b o (dR b o (U0 dZ b o h))) (hq0.le fun b o h=>iQ b o h) Xp sl1 (sq.mono (by omega)) (by omega)).mono ?_⟩
  rintro r tu eh hp
  have hp0:=hp
  obtain ⟨_,_,_,_,_,_,_,_,_,_,_,_,rfl,-⟩:=hp
  exact ⟨_,_,_,_,_,_,_,_,_,_,_,_,_,_,rfl,fun wi kq e7=>⟨(Kk A qq,Kl A qq),at3,hp0.le kq,(LC sl1 (sq.mono (by omega))).mono (by omega),(LD sl1 (sq.mono (by omega))).mono (by omega),t3,e7⟩⟩
 ·rintro r Cu pg ⟨x,y,at',hp,sx,sy,t0,hw'⟩
  have hp0:=hp
  obtain ⟨_,_,_,_,_,_,_,_,_,_,_,_,rfl,-⟩:=hp
  exact ⟨_,_,_,_,_,_,_,_,_,_,_,_,_,_,rfl,_,_,_,_,hw',fun V5 l5 e5=>⟨(x,y),at',hp0.le fun b o h=>l5 b o h,sx.mono (by omega),sy.mono (by omega),t0,e5⟩⟩
theorem Hh {V:View}{t:Tr}{p:OA}(h:RW V p t):p.isSome=true:=by
 cases t with
 | leaf i=>obtain ⟨b,c2,c3,c4,c5,c6,c7,c8,c9,rfl,hb⟩:=h;rfl
 | node l x y=>obtain ⟨b,i,b1,p1,n1,c1,b2,p2,n2,c2,b3,p3,n3,c3,pl,pr,rfl,-⟩:=h;rfl
theorem H8:∀(t:Tr) {V:View} {p:OA} {lb:Nat} {n c:Nat} {vs:List Value} {l:List Nd},RW V p t->t.lG Ft->n=l.length ->
  (vs≠[]->V.w.heap[lb]?=some (.cells vs.toArray 76 (0,0)))->(vs≠[]->V.X lb)->n<=c->c*8<=vs.length->NR V vs l->n+t.size<=1000000 ->
  ab prog 48 #[.pointer p,.slice (mA lb c) n c] V fun r V'=>∃(bm:Nat)(vm:List Value)(c':Nat),(vm≠[]->V'.w.heap[bm]?=some (.cells vm.toArray 76 (0,0)))/\(vm≠[]->V.w.heap.size<=bm\/(vs≠[]/\bm=lb)) /\
   r=.tuple #[.slice (mA bm c') (n+t.size) c',.int .i64 (rt n t)]/\n+t.size<=c'/\c'*8<=vm.length/\NR (V'.cf (vm≠[]) bm) vm (l++wr n t):=by
 intro t
 induction t with
 | leaf i=>
  intro V p lb n c vs l hp _ hn hv hxv hnc hcv hnr hsz
  have hs:=Hh hp
  obtain ⟨b,c2,c3,c4,c5,c6,c7,c8,c9,rfl,hb⟩:=hp
  have fin:∀(V3:View)(bk:Nat)(x:Int),V.Le (V3.cf (vs≠[]) bk)->(vs≠[]->V3.w.heap[bk]?=some (.cells vs.toArray 76 (0,0))) ->
    (vs≠[]->V.w.heap.size<=bk\/(vs≠[]/\bk=lb)\/False)->x=rt n (.leaf i)->∃(bm:Nat)(vm:List Value)(c':Nat),(vm≠[]->V3.w.heap[bm]?=some (.cells vm.toArray 76 (0,0)))/\(vm≠[]->V.w.heap.size<=bm\/(vs≠[]/\bm=lb)) /\
   Value.tuple #[.slice (mA bk c) n c,.int .i64 x]=.tuple #[.slice (mA bm c') (n+(Tr.leaf i).size) c',.int .i64 (rt n (.leaf i))]/\n+(Tr.leaf i).size<=c'/\c'*8<=vm.length/\NR (V3.cf (vm≠[]) bm) vm (l++wr n (.leaf i)):=by
   intro V3 bk x hle e3 e4 hx
   refine ⟨bk,vs,c,e3,fun h=>?_,by rw [hx];rfl,hnc,hcv,?_⟩
   ·rcases e4 h with h|h|h
    ·exact .inl h
    ·exact .inr h
    ·exact h.elim
   ·simp only [wr,List.append_nil]
    exact hnr.le hle
  refine mR _ lb n c vs V _ hv hxv ⟨hs,hs,true,BE hb 0 rfl,fun _=>⟨hs,hs,i,BE hb 1 rfl,fun hi V1 bk a1 a2 a3=>fin V1 bk _ a1 a2 a3 (by subst hi;rfl),fun hi V2 bk a1 a2 a3=>fin V2 bk _ a1 a2 a3 (by subst hi;rfl)⟩,fun h=>by cases h⟩
 | node ln x y JL ihy=>
  intro V p lb n c vs l hp hall hn hv hxv hnc hcv hnr hsz
  have hs:=Hh hp
  simp only [Tr.size] at hsz
  obtain ⟨⟨-,hbd⟩,hax,WM⟩:=hall
  obtain ⟨b,i,b1,p1,n1,c1,b2,p2,n2,c2,b3,p3,n3,c3,pl,pr,rfl,hb,hl,hx,hy⟩:=hp
  have hat:∀j v,([.bool b1,.slice p1 n1 c1,.bool b2,.slice p2 n2 c2,.bool b3,.slice p3 n3 c3]:List Value)[j]?=some v->V.at (((⟨b,2,none⟩:Addr)).add j) v:=by
   intro j v hv
   have hj:j<6:=by
    rcases Nat.lt_or_ge j 6 with hj|hj
    ·exact hj
    ·rw [List.getElem?_eq_none (by simpa using hj)] at hv;cases hv
   have h2:(⟨b,2,none⟩:Addr)=(⟨b,0,none⟩:Addr).add 2:=by rw [add_zero']
   rw [h2,Cw,add_zero']
   refine cU (xs:=[_,_,_,_,_,_,_,_,_,_]) hb ?_
   match j,hj,hv with
   | 0,_,hv=>exact hv
   | 1,_,hv=>exact hv
   | 2,_,hv=>exact hv
   | 3,_,hv=>exact hv
   | 4,_,hv=>exact hv
   | 5,_,hv=>exact hv
  obtain ⟨t1,t2,t3⟩:=hbd.ai
  refine mR _ lb n c vs V _ hv hxv ⟨hs,hs,false,BE hb 0 rfl,(fun h=>by cases h),fun _=>⟨hs,hs,b1,p1,n1,c1,b2,p2,n2,c2,b3,p3,n3,c3,⟨b,2,none⟩,by simp [ah,add_zero'],hat 0 _ rfl,hat 1 _ rfl,hat 2 _ rfl,hat 3 _ rfl,hat 4 _ rfl,hat 5 _ rfl,fun V3 l3=>(AQ (hl.le l3) (by omega) (by omega) (by omega)).mono ?_⟩⟩
  rintro r V4 l4 UD
  have Q_:=UD
  obtain ⟨d1,q1,m1,e1,d2,q2,m2,e2,d3,q3,m3,e3,rfl⟩:=qH UD
  have Cp:=l3.trans l4
  refine ⟨_,_,_,_,_,_,_,_,_,_,_,_,rfl,by omega,hnc,hcv,rfl,by intro v hv;simp at hv;rcases hv with rfl|rfl|rfl|rfl|rfl|rfl|rfl|rfl<;>rfl,fun sp c' g1 g2=>?_⟩
  have hb4:=Cp _ _ hb
  refine ⟨hs,hs,pl,BE hb4 8 rfl,fun V5 l5 bk1 f1 f2=>?_⟩
  have hpush:=NR.push (sp:=sp) (x:=0) (y:=0) (hnr.le Cp) (by omega) (ln:=ln) Q_
  rw [←hn] at hpush
  generalize hrow:vs.take (n*8)++([_,_,_,_,_,_,_,_]:List Value)++sp=row at f1 f2 hpush ⊢
  have hrl:row.length=n*8+8+sp.length:=by
   rw [←hrow];simp only [List.length_append,List.length_take,List.length_cons,List.length_nil];omega
  have Rx:row≠[]:=fun e=>by rw [e] at hrl;simp only [List.length_nil] at hrl;omega
  have KY:=Cp.trans l5
  have i1:=JL (V:=V5.au [vb row V5.w.heap.size bk1]) (p:=pl) (lb:=bk1) (n:=n+1) (c:=c') (vs:=row) (l:=l++[⟨ln,0,0⟩]) (RW.le (V:=V) (V':=V5.au _) (fun b o h=>KY b o h) hx) hax (by simp [hn]) f1 (fun h=>⟨by simp [vB h],f2 h⟩) g1 (by omega) (NR.le (V:=V4) (V':=V5.au _) hpush fun b o h=>l5 b o h) (by omega)
  refine i1.mono ?_
  rintro r V6 l6 ⟨bm,vm,c1',a1,a2,rfl,a5,a6,a7⟩
  have Xj:V5.Le V6:=fun b o h=>l6 b o h
  have UY:V5.Le (V6.shut.cf (vm≠[]) bm):=pS (V':=V5) Xj (View.Le.refl V5) fun h=>(a2 h).imp id fun h'=>by rw [h'.2];exact f2 Rx
  refine ⟨bm,vm,a1,a2,none,_,_,_,rfl,hs,hs,pr,BE ((KY.trans UY) _ _ hb) 9 rfl,fun V7 l7 bk2 d1 d2=>?_⟩
  have UN:vm≠[]:=fun e=>by rw [e] at a6;simp at a6;omega
  have Fs:V.Le V7:=(KY.trans UY).trans l7
  have i2:=ihy (V:=V7.au [vb vm V7.w.heap.size bk2]) (p:=pr) (lb:=bk2) (n:=n+1+x.size) (c:=c1') (vs:=vm) (l:=l++[⟨ln,0,0⟩]++wr (n+1) x) (RW.le (V:=V) (V':=V7.au _) (fun b o h=>Fs b o h) hy) WM (by simp [hn,dV];omega) d1 (fun h=>⟨by simp [vB h],d2 h⟩) a5 a6 (NR.le (V:=V6.cf (vm≠[]) bm) (V':=V7.au _) a7 fun b o h=>l7 b o h) (by omega)
  refine i2.mono ?_
  rintro r V8 l8 ⟨bn,vn,c2',b1',b2',rfl,b5,b6,b7⟩
  have hlen:n*8+8<=vn.length:=by omega
  simp only [Int.toNat_natCast]
  refine ⟨bn,vn,b1',b2',none,_,_,_,rfl,⟨by omega,by omega⟩,b5,by omega,⟨by omega,by omega⟩,b5,by rw [List.length_set];omega,fun V9 HW u1 u4 u5=>?_⟩
  have hfin:=NR.kids (V:=V8.cf (vn≠[]) bn) (l:=l) (r:=wr (n+1) x++wr (n+1+x.size) y) (ln:=ln) (u:=0) (v:=0) (x:=rt (n+1) x) (y:=rt (n+1+x.size) y) (by simpa using b7)
  rw [←hn] at hfin
  refine ⟨HW,_,c2',u4,fun h=>?_,by rw [show n+(Tr.node ln x y).size=n+1+x.size+y.size from by simp only [Tr.size];omega];rfl,by simp only [Tr.size];omega,by simp only [List.length_set];omega,?_⟩
  ·rcases u5 h with h|h|h
   ·exact .inl h
   ·exact .inr h
   ·exact h.elim
  ·simp only [wr]
   exact NR.le (V:=V8.cf (vn≠[]) bn) hfin fun b o h=>u1 b o h
theorem nT {V:View}{p:OA}{t:Tr}(h:RW V p t)(ha:t.lG Ft)(hs:t.size<=1000000) :
  ab prog 14 #[.pointer p] V fun r V'=>AT V' r (rt 0 t) (wr 0 t):=by
 refine vX p V _ fun V1 l1=>?_
 refine ab.N5 (H8 t (V:=V1) (lb:=0) (vs:=[]) (l:=[]) (n:=0) (c:=0) (h.le l1) ha rfl (fun h=>absurd rfl h) (fun h=>absurd rfl h) (Nat.le_refl _) (Nat.le_refl _) (fun i d hd=>by simp at hd) (by omega)) ?_
 rintro r V2 l2 hH ⟨bm,vm,c',a1,a2,rfl,a5,a6,a7⟩
 refine ⟨bm,vm,a1,fun h=>(a2 h).imp id fun h'=>absurd rfl h'.1,none,_,_,_,rfl,fun V3 l3 bk hb=>?_⟩
 simp only [List.nil_append,Nat.zero_add] at a7 a5 ⊢
 have:=NS.ofRow (V:=V3) (b:=bk) (c:=c') (vm:=vm) (l:=wr 0 t) (ty:=76) hb (by rw [dV];exact a5) (a7.le fun b o h=>l3 b o h)
 rw [dV] at this
 exact ⟨_,_,_,rfl,this⟩
end Go.Proofs.Tryz
