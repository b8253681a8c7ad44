import Derived.Test.YthpmdmkmfoaamaaGreatDoorF15
import Derived.Test.YthpmdmkmfoaamaaGreatDoorF16
import Derived.Test.YthpmdmkmfoaamaaGreatDoorF8
import Derived.Test.YthpmdmkmfoaamaaGreatDoorF14
import Derived.Test.YthpmdmkmfoaamaaGreatDoorF7
import Derived.Test.YthpmdmkmfoaamaaGreatDoorF9
import Derived.Test.YthpmdmkmfoaamaaGreatDoorF13
import Derived.Test.YthpmdmkmfoaamaaGreatDoorF5
set_option linter.unusedVariables false
open Go.IntKind (i64 u64 u32)
namespace Go.Proofs.Tryz
open Go.bz Go.eM
set_option maxHeartbeats 1000000 in
theorem tR {V:View}{lb n c:Nat}{vs:List Value}{l:List (Rat×Rat)}(hw:V.w.heap[lb]?=some (.cells vs.toArray 108 (0,0)))(hx:V.X lb)(h:iV V n vs l)(hc:n<=c) :
  ab prog 152 #[.slice (some ⟨lb,0,none⟩) n c,.func (.func 153) #[] #[]] V fun r V'=>∃vs',r=.slice (some ⟨lb,0,none⟩) (eW eP l).length c/\V'.w.heap[lb]?=some (.cells vs'.toArray 108 (0,0))/\Row 6 kq V' vs' (eW eP l)/\vs'.length=vs.length:=by
 have mM:=h.mM
 have len:=h.len
 have hvl:=h.row.eY (by decide)
 refine km lb n c vs V _ hw hx ⟨fun h2 V1 l1 hw1=>?_,fun h2=>⟨fun z V'=>∃k:Nat,z=((k+1:Nat):Int)/\k+1<=n/\eW eP (l.take (k+1))=l.take (k+1),fun z=>n-z.toNat,⟨1,by and_intros<;>rfl,0,rfl,by have:=of_decide_eq_false h2;omega,AP (by rw [List.length_take];omega)⟩,?_⟩⟩
 ·have h2:(n:Int)<2:=of_decide_eq_true h2
  have e:=AP (e:=eP) (l:=l) (by omega)
  rw [e,←len]
  exact ⟨vs,rfl,hw1,h.row.le fun _ _ g=>kq.le g l1,rfl⟩
 have h2:¬(n:Int)<2:=of_decide_eq_false h2
 rintro z V2 l2 ⟨k,rfl,hk,hcm⟩
 have hs2:=h.le l2
 refine ⟨rfl,fun hlt=>?_,fun hlt V9 l9 Qy=>?_⟩
 rotate_left
 ·have hlt:¬((k+1:Nat):Int)<n:=of_decide_eq_false hlt
  have e:l.take (k+1)=l:=List.take_of_length_le (by omega)
  rw [e] at hcm
  rw [hcm,←len]
  exact ⟨vs,rfl,Qy,h.row.le fun _ _ g=>kq.le g (l2.trans l9),rfl⟩
 have hlt:((k+1:Nat):Int)<n:=of_decide_eq_true hlt
 have w1:i64.wrap (((k+1:Nat):Int)-1)=(k:Int):=by rw [ar (by omega)];omega
 have w2:i64.wrap (((k+1:Nat):Int)+1)=((k+1+1:Nat):Int):=by rw [ar (by omega)];rfl
 rw [w1,w2,Int.toNat_natCast,Int.toNat_natCast]
 obtain ⟨x1,y1,p1,fu,fw,fr,g1,r1⟩:=hs2.get (k:=k+1) (by omega)
 obtain ⟨x2,y2,p2,gv,gz,gj,g2,r2⟩:=hs2.get (k:=k) (by omega)
 refine ⟨⟨by omega,hlt⟩,x1,y1,p1,fu,fw,fr,g1,⟨by omega,by omega⟩,x2,y2,p2,gv,gz,gj,g2,fun V3 l3=>(FZ (r1.le l3) (r2.le l3)).mono ?_⟩
 rintro r V4 l4 rfl
 have step:=mJ (e:=eP) (d:=bj) (l:=l) (k:=k) (by omega)
 refine ⟨_,rfl,fun he=>⟨⟨by omega,by omega⟩,?_⟩,fun he=>⟨((k+1+1:Nat):Int),by dsimp only;omega,by and_intros<;>rfl,k+1,rfl,by omega,?_⟩⟩
 rotate_left
 ·have he':eP (l.getD (k+1) bj) (l.getD k bj)=false:=he
  rw [step,hcm,he']
  show l.take (k+1)++[_]=_
  have hi:k+1<l.length:=by omega
  rw [show l.getD (k+1) bj=l[k+1] by rw [List.getD_eq_getElem?_getD,List.getElem?_eq_getElem hi];rfl,List.take_append_getElem hi]
 have he':eP (l.getD (k+1) bj) (l.getD k bj)=true:=he
 have sW:=l3.trans l4
 have so:∀{m:Nat},m<c->zN 0 c m 6=m*6:=fun hm=>by unfold zN;rw [if_neg (by omega),Nat.zero_add]
 refine ⟨fun z V'=>∃(q t:Nat)(m:List (Rat×Rat)),z.1=(q:Int)/\z.2.1=((t+1:Nat):Int)/\q<=k+1+t/\k+1+t+1<=n/\iV V' n z.2.2 m/\z.2.2.length=vs.length/\(∀i,k+1+t<=i->m.getD i bj=l.getD i bj)/\m.take q=eW eP (l.take (k+1+t+1)),fun z=>n-z.2.1.toNat,
  ⟨(((k+1:Nat):Int),1,vs),by and_intros<;>rfl,k+1,0,l,rfl,rfl,by omega,by omega,h.le (l2.trans sW),rfl,fun i _=>rfl,?_⟩,?_⟩
 ·rw [Nat.add_zero,step,he',if_pos rfl,List.append_nil,hcm]
 rintro ⟨zq,zt,us⟩ V5 l5 ⟨q,t,m,e1,e2,hq,ht,hs,IQ,hm,LQ⟩
 dsimp only at e1 e2 hs IQ
 subst e1 e2
 dsimp only
 have ml:=hs.len
 have WM:=hs.row.eY (by decide)
 refine ⟨rfl,fun hlt2=>?_,fun hlt2=>?_⟩
 ·have hlt2:((t+1:Nat):Int)<((n-(k+1):Nat):Int):=of_decide_eq_true hlt2
  have w3:i64.wrap (((t+1:Nat):Int)-1)=(t:Int):=by rw [ar (by omega)];omega
  have w4:i64.wrap (((t+1:Nat):Int)+1)=((t+1+1:Nat):Int):=by rw [ar (by omega)];rfl
  have w5:i64.wrap ((q:Int)+1)=((q+1:Nat):Int):=by rw [ar (by omega)];rfl
  rw [w3,w4,w5,Int.toNat_natCast,Int.toNat_natCast,Int.toNat_natCast,so (by omega)]
  obtain ⟨x1,y1,p1,fu,fw,fr,g1,r1⟩:=hs.get (k:=k+1+(t+1)) (by omega)
  obtain ⟨x2,y2,p2,gv,gz,gj,g2,r2⟩:=hs.get (k:=k+1+t) (by omega)
  have a1:(k+1)*6+(t+1)*6=0+(k+1+(t+1))*6:=by omega
  have a2:(k+1)*6+t*6=0+(k+1+t)*6:=by omega
  rw [a1,a2]
  rw [hm _ (by omega)] at r1
  rw [hm _ (by omega)] at r2
  refine ⟨⟨by omega,hlt2⟩,x1,y1,p1,fu,fw,fr,g1,⟨by omega,by omega⟩,x2,y2,p2,gv,gz,gj,g2,fun V6 l6=>(FZ (r1.le l6) (r2.le l6)).mono ?_⟩
  rintro r V7 l7 rfl
  have QK:=l6.trans l7
  have step2:=mJ (e:=eP) (d:=bj) (l:=l) (k:=k+1+t) (by omega)
  refine ⟨_,rfl,fun hn=>⟨⟨by omega,hlt2⟩,x1,y1,p1,fu,fw,fr,g1,⟨by omega,by omega⟩,by omega,(((q+1:Nat):Int),((t+1+1:Nat):Int),_),by dsimp only;omega,by and_intros<;>rfl,q+1,t+1,m.set q (l.getD (k+1+(t+1)) bj),rfl,rfl,by omega,by omega,?_,?_,fun i hi=>?_,?_⟩,fun hn=>⟨(((q:Nat):Int),((t+1+1:Nat):Int),us),by dsimp only;omega,by and_intros<;>rfl,q,t+1,m,rfl,rfl,by omega,by omega,hs.le QK,IQ,fun i hi=>hm i (by omega),?_⟩⟩
  ·refine ⟨?_,by rw [List.length_set];exact ml,by rw [List.length_set];exact hs.mM⟩
   have:=(hs.le QK).row.put (i:=q) (by omega) (by decide) (xs:=[.int .i64 x1,.int .i64 y1,.pointer p1,.int .i64 fu,.int .i64 fw,.pointer fr]) rfl (r1.le QK)
   dsimp only
   rw [Nat.zero_add]
   exact this
  ·exact (jr (vs:=us) (xs:=[.int .i64 x1,.int .i64 y1,.pointer p1,.int .i64 fu,.int .i64 fw,.pointer fr]) (o:=0+q*6) (by show 0+q*6+6<=_;omega)).trans IQ
  ·rw [List.getD_eq_getElem?_getD,List.getElem?_set_ne (by omega),←List.getD_eq_getElem?_getD]
   exact hm i (by omega)
  ·have hn1:eP (l.getD (k+1+(t+1)) bj) (l.getD (k+1+t) bj)=false:=by simpa using hn
   have hn':eP (l.getD (k+1+t+1) bj) (l.getD (k+1+t) bj)=false:=hn1
   have hi:q<m.length:=by omega
   rw [show k+1+(t+1)+1=k+1+t+2 from rfl,step2,hn',←LQ,if_neg (by decide)]
   rw [List.take_set,List.take_add_one,List.getElem?_eq_getElem hi,show (some m[q]).toList=[m[q]] from rfl]
   rw [List.set_append_right _ _ (by rw [List.length_take];omega),List.length_take,Nat.min_eq_left (by omega),Nat.sub_self]
   rfl
  ·have hn1:eP (l.getD (k+1+(t+1)) bj) (l.getD (k+1+t) bj)=true:=by simpa using hn
   have hn':eP (l.getD (k+1+t+1) bj) (l.getD (k+1+t) bj)=true:=hn1
   rw [show k+1+(t+1)+1=k+1+t+2 from rfl,step2,hn',if_pos rfl,List.append_nil,LQ]
 ·have hlt2:¬((t+1:Nat):Int)<((n-(k+1):Nat):Int):=of_decide_eq_false hlt2
  have hl:l.take (k+1+t+1)=l:=List.take_of_length_le (by omega)
  rw [hl] at LQ
  have WE:q<n:=by
   have:=Is (e:=eP) (d:=bj) (l:=l) (k:=k) (by omega) he'
   rw [←LQ,List.length_take] at this
   omega
  rw [Int.toNat_natCast,so (by omega)]
  have hz:q*6+(n-q)*6=n*6:=by rw [←Nat.add_mul];congr 1;omega
  rw [hz]
  refine ⟨⟨by omega,by omega⟩,by omega,⟨by omega,by omega⟩,fun V8 l8 hw8=>⟨_,?_,hw8,?_,?_⟩⟩
  ·rw [←LQ,List.length_take,Nat.min_eq_left (by omega)]
  ·rw [←LQ,List.append_assoc]
   exact (hs.row.le fun _ _ g=>kq.le g l8).Io (by omega) (by decide)
  ·simp only [List.length_append,List.length_take,List.length_drop,mZ,List.length_flatten,List.map_replicate,List.sum_replicate_nat,List.length_cons,List.length_nil]
   omega
theorem nS {V:View}:ab prog 152 #[.slice none 0 0,.func (.func 153) #[] #[]] V fun r V'=>r=.slice none 0 0:=
 h_ V _ ⟨fun _ V1 l1=>rfl,fun h=>absurd (of_decide_eq_false h) (by decide)⟩
def tD (n c:Nat)(l:List (Rat×Rat)):Prop:=∀(V:View)(lb:Nat)(vs:List Value),V.w.heap[lb]?=some (.cells vs.toArray 108 (0,0))->V.X lb->iV V n vs l ->
 ab prog 150 #[.slice (some ⟨lb,0,none⟩) n c,.func (.func 151) #[] #[]] V fun r V'=>r=.tuple #[]/\∃vs' l',V'.w.heap[lb]?=some (.cells vs'.toArray 108 (0,0))/\iV V' n vs' l'/\l'.Perm l/\l'.Pairwise fun x y=>¬dg y x<0
theorem Lf (n c:Nat)(l:List (Rat×Rat)):tD n c l:=fun _ _ _ hw hx h=>AB hw hx h
theorem Lg (n c:Nat)(l:List (Rat×Rat))(h12:l.length<=12):tD n c l:=by
 intro V lb vs hw hx h
 have mM:=h.mM
 have len:=h.len
 have w:u64.wrap (n:Int)=n:=aM (by omega)
 refine gq lb n c vs V _ hw hx ?_
 rw [w]
 refine fun V1 l1=>(ky n (by omega)).mono ?_
 rintro r V2 l2 rfl
 have pdq:∀{W:View} {bk:Nat},W.w.heap[bk]?=some (.cells vs.toArray 108 (0,0))->W.X bk->iV W n vs l->ab prog 187 #[.slice (some ⟨bk,0,none⟩) n c,.int .i64 0,.int .i64 (n:Int),.int .i64 (bf n:Int),.func (.func 151) #[] #[]] W fun r V'=>r=.tuple #[]/\ku bk n l 0 n V' fun l'=>oS dg bj l' 0 n:=by
  intro W bk hw hx h
  refine dz bk n c vs 0 n (bf n:Int) W _ hw hx ⟨fun z V'=>z.1=0/\z.2.1=(n:Int)/\iV V' n z.2.2.2.2.2 l,fun _=>0,⟨(0,(n:Int),(bf n:Int),true,true,vs),by and_intros<;>rfl,rfl,rfl,h⟩,?_⟩
  rintro ⟨z1,z2,DY,wb,wp,us⟩ V1 l1 ⟨e1,e2,hs⟩
  dsimp only at e1 e2 hs
  subst e1 e2
  dsimp only
  have w0:i64.wrap ((n:Int)-0)=(n:Int):=by rw [ar (by omega)];omega
  rw [w0]
  refine ⟨rfl,fun _ V2 l2 bk e2 h2=>(jU (V:=V2.aA [bk]) e2 ⟨by simp,h2⟩ (hs.le l2) (a:=0) (b:=n) (by omega) (by omega)).mono ?_,fun h12=>by have:=of_decide_eq_false h12;omega⟩
  rintro r V3 l3 ⟨rfl,ws,m',e3,hs3,Rv,PG⟩
  exact ⟨rfl,ws,e3,fun V4 l4 hw4=>⟨rfl,ws,m',hw4,hs3.le fun b o h=>l4 b o h,Rv,PG⟩⟩
 refine ⟨_,rfl,fun V3 l3 bk e3 h3=>(pdq (W:=V3.aA [bk]) e3 ⟨by simp,h3⟩ (h.le fun b o h=>l3 b o (l2 b o (l1 b o h)))).mono ?_⟩
 rintro r V4 l4 ⟨rfl,vs',l',e4,hs4,sg,Al⟩
 refine ⟨rfl,vs',e4,fun V5 l5 Qx=>⟨rfl,vs',l',Qx,hs4.le fun b o h=>l5 b o h,sg.perm,?_⟩⟩
 have sl:=sg.len
 refine List.pairwise_iff_getElem.2 fun i j hi hj wG=>?_
 have:=Al i j (by omega) wG (by omega)
 rw [List.getD_eq_getElem?_getD,List.getD_eq_getElem?_getD,List.getElem?_eq_getElem hi,List.getElem?_eq_getElem hj] at this
 simp only [Option.getD_some] at this
 exact this
theorem yL {V:View}{lb n c:Nat}{vs:List Value}{o:List (Rat×Rat)}(hw:vs≠[]->V.w.heap[lb]?=some (.cells vs.toArray 108 (0,0)))(hx:vs≠[]->V.X lb)(hg:GR 6 kq V n c vs o)(hpos:vs≠[]->0<n)(hs:o.length<50)(hso:tD n c o) :
  ab prog 100 #[.slice (mA lb c) n c] V fun r V'=>∃(bm:Nat)(vm:List Value)(n' c':Nat)(m:List (Rat×Rat)),(vm≠[]->V'.w.heap[bm]?=some (.cells vm.toArray 108 (0,0)))/\(vm≠[]->V.w.heap.size<=bm\/(vs≠[]/\bm=lb)) /\
   r=.slice (mA bm c') n' c'/\Row 6 kq (V'.bR (vm≠[]) bm) vm (eW eP m)/\n'=(eW eP m).length/\n'<=c'/\m.Perm o/\m.Pairwise fun x y=>¬dg y x<0:=by
 have LW:∀{A B:Prop},A\/B\/False->A\/B:=fun h=>h.imp id fun h=>h.elim id False.elim
 have hcap:=hg.cap
 have hle:=hg.le
 have hlen:=hg.len
 refine qb lb n c vs V _ hw hx ⟨fun hz=>?_,fun hz V6 l6 Sv f1 f2=>?_⟩
 ·subst hz
  have c0:c=0:=by simp at hcap;omega
  subst c0
  have n0:n=0:=by omega
  subst n0
  have hnil:o=[]:=List.length_eq_zero_iff.1 hlen.symm
  refine ⟨rfl,fun V1 l1=>rV.mono ?_⟩
  rintro r V2 l2 rfl
  refine ⟨rfl,fun V3 l3 Wt e1 e2=>nS.mono ?_⟩
  rintro r V4 l4 rfl
  refine ⟨0,[],fun h=>absurd rfl h,fun h=>absurd rfl h,none,0,0,rfl,fun V5 Ud hl e3 e4=>⟨Ud,[],0,0,[],fun h=>absurd rfl h,fun h=>absurd rfl h,rfl,Row.nil,rfl,Nat.le_refl _,?_,List.Pairwise.nil⟩⟩
  rw [hnil]
 ·have hn0:=hpos hz
  have hc0:c≠0:=by omega
  have IK:∀b,mA b c=some ⟨b,0,none⟩:=fun b=>by unfold mA;rw [if_neg hc0]
  rw [IK]
  refine (hso (V6.aA [vb vs V6.w.heap.size Sv]) Sv vs (f1 hz) ⟨by simp [vt hz],f2 hz⟩ ⟨hg.row.le fun _ _ g=>kq.le g fun b o h=>l6 b o h,hlen,hs⟩).mono ?_
  rintro r V7 l7 ⟨rfl,vs',m,e3,sr,pm,pw⟩
  have NA:=pm.length_eq
  have EO:vs'≠[]:=fun e=>by
   have:=sr.row.eY (by decide)
   rw [e,NA,←hlen] at this
   simp at this
   omega
  refine ⟨rfl,hz,vs',EO,e3,fun V8 l8 LH g1 g2=>?_⟩
  rw [IK]
  refine ab.NC (tR (V:=V8.aA [vb vs' V8.w.heap.size LH]) (lb:=LH) (vs:=vs') (l:=m) (g1 EO) ⟨by simp [vt EO],g2 EO⟩ (sr.le fun b o h=>l8 b o h) hle) ?_
  rintro r V9 l9 hH ⟨ws,rfl,e4,row,wl⟩
  have hk:=ug (e:=eP) (l:=m)
  refine ⟨LH,ws,fun _=>e4,fun _=>.inr ⟨EO,rfl⟩,some ⟨LH,0,none⟩,(eW eP m).length,c,by rw [IK],fun gQ PL hl k1 k2=>⟨PL,ws,_,c,m,k1,fun h=>LW (k2 h),rfl,?_,rfl,by omega,pm,pw⟩⟩
  exact row.le fun _ _ g=>kq.le g ((GG fun _=>hH LH (g2 EO)).trans hl)
def Ch (k:Nat)(V:View)(v:Value)(c:Rat×Rat):Prop:=lx V v c.1 c.2/\Sz k c.1/\Sz k c.2
theorem Ch.le {k:Nat}{V V':View}{v:Value}{c:Rat×Rat}(h:Ch k V v c)(l:V.Le V'):Ch k V' v c:=⟨h.1.le l,h.2⟩
theorem J5 {a b:Int}{p:OA}{c d:Int}{q:OA}:∀v∈([.int .i64 a,.int .i64 b,.pointer p,.int .i64 c,.int .i64 d,.pointer q]:List Value),v.oneCell'=true:=by
 intro v hm
 simp only [List.mem_cons,List.not_mem_nil,or_false] at hm
 rcases hm with rfl|rfl|rfl|rfl|rfl|rfl<;>rfl
theorem zh {k:Nat}{V:View}{p:OA}{n:Nat}{al:List (Rat×Rat)}(h:lu 6 (Ch k) V p n al){i:Nat}(hi:i<al.length) :
  p.isSome=true/\∃(x y:Int)(q:OA)(x' y':Int)(q':OA)(a:Addr),ag p (i*6)=some a/\V.at (a.add 0) (.int .i64 x)/\V.at (a.add 1) (.int .i64 y)/\V.at (a.add 2) (.pointer q)/\V.at (a.add 3) (.int .i64 x')/\V.at (a.add 4) (.int .i64 y')/\V.at (a.add 5) (.pointer q') /\
   Ch k V (.agg #[.int .i64 x,.int .i64 y,.pointer q,.int .i64 x',.int .i64 y',.pointer q']) al[i]:=by
 obtain ⟨ad,h0,xs,h1,h2,h3⟩:=h.at_ i hi
 have h20:=h2
 obtain ⟨⟨x,y,q,x',y',q',e,-⟩,-⟩:=h2
 have e:=congrArg Array.toList (Value.agg.inj e)
 dsimp only at e
 subst e
 refine ⟨?_,x,y,q,x',y',q',ad,h0,h3 0 _ rfl,h3 1 _ rfl,h3 2 _ rfl,h3 3 _ rfl,h3 4 _ rfl,h3 5 _ rfl,h20⟩
 cases p with
 | none=>cases h0
 | some a=>rfl
def vi (u w:Rat×Rat):Rat×Rat:=if aw.cr u w>0 then (u.1+w.1,u.2+w.2) else (-u.2,u.1)
def jq (D:List (Rat×Rat)):List (Rat×Rat):=if D=[] then [(1,0)] else aw.Hx vi D
theorem HJ:Sz 1 (0:Rat):=by unfold Sz;decide
theorem vo:Sz 300000 (0:Rat):=HJ.mono (by omega)
theorem E8 {f:Rat×Rat->Rat×Rat->Rat×Rat}{D:List (Rat×Rat)}:aw.Hx f D=(List.range D.length).map fun i=>f (D.getD i (0,0)) (D.getD ((i+1)%D.length) (0,0)):=rfl
theorem Eo {V:View}{p:OA}{n c:Nat}{D:List (Rat×Rat)}(h:lu 6 (Ch 100000) V p n D)(hn:D.length<=1000000) :
  ab prog 99 #[.slice p n c] V fun r V'=>∃q n' c',r=.slice q n' c'/\lu 6 (Ch 300000) V' q n' (jq D):=by
 have hl:=h.len
 subst hl
 refine vC p D.length c V _ ⟨fun h0 V1 l1=>(kA 1 (by omega) (by omega)).mono ?_,fun h0=>⟨fun z V'=>∃i:Nat,z.2.2.2=(i:Int)/\i<=D.length/\GR 6 (Ch 300000) V' z.1 z.2.1 z.2.2.1 ((List.range i).map fun i=>vi (D.getD i (0,0)) (D.getD ((i+1)%D.length) (0,0))),fun z=>(D.length-z.2.2.2).toNat,⟨(0,0,[],0),by and_intros<;>rfl,0,rfl,Nat.zero_le _,GR.nil⟩,?_⟩⟩
 ·have h0:D=[]:=List.length_eq_zero_iff.1 (by have:=(beq_iff_eq.1 h0);omega)
  rintro r V2 l2 g
  have g0:=g
  obtain ⟨a,b,q,rfl⟩:=g.shape
  refine ⟨_,_,_,rfl,fun V3 l3 bk hb=>⟨_,1,1,rfl,?_⟩⟩
  unfold jq
  rw [if_pos h0]
  refine lu.zm hb (row_one rfl ⟨⟨_,_,_,_,_,_,rfl,g0.le l3,?_⟩,?_,vo⟩)
  ·exact RR.zero _
  ·exact (zP).mono (by omega)
 ·have h0:D.length≠0:=fun e=>by rw [e] at h0;cases h0
  rintro ⟨n1,c1,vs1,z⟩ V4 l4 ⟨i,e,hi,g⟩
  dsimp only at e g ⊢
  subst e
  have gl:=g.len
  have Ut:n1=i:=by rw [gl];simp
  refine ⟨rfl,fun hlt=>?_,fun hlt lA bW bk hb=>?_⟩
  ·have hlt:i<D.length:=by have:=of_decide_eq_true hlt;omega
   have w1:i64.wrap ((i:Int)+1)=((i+1:Nat):Int):=by rw [ar (by omega)];rfl
   have hm:(((i+1:Nat):Int)).tmod (D.length:Int)=(((i+1)%D.length:Nat):Int):=by rw [Int.ofNat_tmod]
   have hj:(i+1)%D.length<D.length:=Nat.mod_lt _ (by omega)
   rw [w1,hm]
   simp only [Int.toNat_natCast]
   have h4:=h.le l4 fun _ _ g=>Ch.le g l4
   obtain ⟨ps,x,y,q,x',y',q',a,ha,a0,a1,a2,a3,a4,a5,gu⟩:=zh h4 hlt
   obtain ⟨-,u,v,t,u',v',t',b,hb,b0,b1,b2,b3,b4,b5,gw⟩:=zh h4 hj
   have eu:D.getD i (0,0)=D[i]:=by rw [List.getD_eq_getElem?_getD,List.getElem?_eq_getElem hlt];rfl
   have ew:D.getD ((i+1)%D.length) (0,0)=D[(i+1)%D.length]:=by rw [List.getD_eq_getElem?_getD,List.getElem?_eq_getElem hj];rfl
   refine ⟨ps,⟨by omega,by omega⟩,x,y,q,x',y',q',a,ha,a0,a1,a2,a3,a4,a5,by omega,ps,⟨by omega,by omega⟩,u,v,t,u',v',t',b,hb,b0,b1,b2,b3,b4,b5,?_⟩
   have es:(List.range (i+1)).map (fun i=>vi (D.getD i (0,0)) (D.getD ((i+1)%D.length) (0,0)))=(List.range i).map (fun i=>vi (D.getD i (0,0)) (D.getD ((i+1)%D.length) (0,0)))++[vi D[i] D[(i+1)%D.length]]:=by
    rw [List.range_succ,List.map_append,List.map_singleton,eu,ew]
   generalize D[i]=U at *
   generalize D[(i+1)%D.length]=W at *
   refine fun V5 l5=>(lI (gu.1.le l5) (gw.1.le l5) gu.2.1 gu.2.2 gw.2.1 gw.2.2 (by omega)).mono ?_
   rintro r V6 l6 gc
   have IA:=gc
   obtain ⟨k1,k2,k3,rfl⟩:=gc.shape
   refine ⟨_,_,_,rfl,fun V7 l7=>(eT (IA.le l7) (ko gu.2.1 gu.2.2 gw.2.1 gw.2.2) (by omega)).mono ?_⟩
   rintro r V8 l8 rfl
   have Nk:=l5.trans (l6.trans (l7.trans l8))
   refine ⟨_,rfl,fun hp V9 l9=>(yO (gu.1.le (Nk.trans l9)) (gw.1.le (Nk.trans l9)) gu.2.1 gu.2.2 gw.2.1 gw.2.2 (by omega)).mono ?_,fun hp jw bQ=>(wc (gu.1.le (Nk.trans bQ)) gu.2.1 gu.2.2 (by omega)).mono ?_⟩
   ·rintro r gQ l10 ga
    have hp:aw.cr U W>0:=aw.pU.1 (of_decide_eq_true hp)
    have MC:Ch 300000 gQ r (vi U W):=by
     unfold vi
     rw [if_pos hp]
     exact ⟨ga,(vU gu.2.1 gu.2.2 gw.2.1 gw.2.2).mono (by omega),(vV gu.2.1 gu.2.2 gw.2.1 gw.2.2).mono (by omega)⟩
    obtain ⟨_,_,_,_,_,_,rfl,-⟩:=ga
    refine ⟨_,_,_,_,_,_,rfl,by omega,g.le,g.cap,rfl,J5,fun sp c' g1 g2=>⟨(n1+1,c',_,((i+1:Nat):Int)),by dsimp only;omega,by and_intros<;>first|rfl|trivial,i+1,rfl,by omega,?_⟩⟩
    rw [es]
    exact (g.mono fun _ _ g=>Ch.le g (Nk.trans (l9.trans l10))).snoc (xs:=[_,_,_,_,_,_]) rfl MC (by decide) g1 g2
   ·rintro r kv cp ga
    have hp:¬aw.cr U W>0:=fun h=>(of_decide_eq_false hp) (aw.pU.2 h)
    have MC:Ch 300000 kv r (vi U W):=by
     unfold vi
     rw [if_neg hp]
     exact ⟨ga,gu.2.2.neg.mono (by omega),gu.2.1.mono (by omega)⟩
    obtain ⟨_,_,_,_,_,_,rfl,-⟩:=ga
    refine ⟨_,_,_,_,_,_,rfl,by omega,g.le,g.cap,rfl,J5,fun sp c' g1 g2=>⟨(n1+1,c',_,((i+1:Nat):Int)),by dsimp only;omega,by and_intros<;>first|rfl|trivial,i+1,rfl,by omega,?_⟩⟩
    rw [es]
    exact (g.mono fun _ _ g=>Ch.le g (Nk.trans (bQ.trans cp))).snoc (xs:=[_,_,_,_,_,_]) rfl MC (by decide) g1 g2
  ·have hlt:i=D.length:=by have:=of_decide_eq_false hlt;omega
   subst hlt
   refine ⟨_,_,_,rfl,?_⟩
   have hD:D≠[]:=fun e=>h0 (by rw [e];rfl)
   unfold jq
   rw [if_neg hD,E8,gl]
   exact lu.th hb (g.row.le fun _ _ g=>Ch.le g bW) (by decide) (by rw [←gl];exact g.le)
theorem En {V:View}(i a:Bool):ab prog 102 #[.bool i,.bool a] V fun r V'=>r=.int .i64 (if i&&a then 2 else if i then 1 else 0):=by
 refine vy i a V _ ⟨fun h=>⟨fun h' V1 l1=>?_,fun h'=>⟨fun h'' V2 l2=>?_,fun h'' V3 l3=>?_⟩⟩,fun h=>⟨fun h' V4 l4=>?_,fun h' V5 l5=>?_⟩⟩<;>simp_all
theorem oX {pv vv:Value}{p v:Rat×Rat}(s1:Sz 1000000 p.1)(s2:Sz 1000000 p.2)(s3:Sz 300000 v.1)(s4:Sz 300000 v.2){t:Tr}{V:View}{q:OA}(h:RT V q t)(ha:t.iU Bd)(hp:lx V pv p.1 p.2)(hv:lx V vv v.1 v.2) :
  ab prog 80 #[.pointer q,pv,vv] V fun r V'=>r=.tuple #[.bool (aw.gC t p v).1,.bool (aw.gC t p v).2]:=by
 have hp0:=hp
 have hv0:=hv
 obtain ⟨x1,x2,x3,y1,y2,y3,rfl,-⟩:=hp
 obtain ⟨u1,u2,u3,w1,w2,w3,rfl,-⟩:=hv
 refine sC q x1 x2 x3 y1 y2 y3 u1 u2 u3 w1 w2 w3 V _ ⟨fun z k V'=>∃t',RT V' z t'/\t'.iU Bd/\k=t'.size/\aw.gC t' p v=aw.gC t p v,⟨q,t.size,by and_intros<;>rfl,t,h,ha,rfl,rfl⟩,?_⟩
 rintro z k V1 l1 ⟨t',h',ha',rfl,e⟩
 rw [←e]
 clear e h ha t
 refine ⟨rfl,fun V2 l2=>(kz (h'.le l2)).mono ?_⟩
 rintro r V3 l3 rfl
 have bW:=l2.trans l3
 refine ⟨_,rfl,fun hl=>?_,fun hl=>?_⟩
 ·cases t' with
  | leaf i=>cases hl
  | node ln a b=>
   obtain ⟨bb,a1,a2,a3,b1,b2,b3,c1,c2,c3,pl,pr,i,rfl,hb,hln,LS,htb⟩:=h'.le bW
   obtain ⟨hbd,MH,lF⟩:=ha'
   have hat:∀{W:View},V3.Le W->∀j v,([.int .i64 a1,.int .i64 a2,.pointer a3,.int .i64 b1,.int .i64 b2,.pointer b3,.int .i64 c1,.int .i64 c2,.pointer c3,.pointer pl,.pointer pr,.bool i]:List Value)[j]?=some v->W.at ((⟨bb,0,none⟩:Addr).add j) v:=by
    intro W hW j v hv;rw [add_zero'];exact bU (xs:=[_,_,_,_,_,_,_,_,_,_,_,_]) (hW _ _ hb) hv
   have h0:=View.Le.refl V3
   have sl:=hbd.J_
   have L3:=l1.trans bW
   refine ⟨rfl,rfl,_,_,_,_,_,_,_,_,_,⟨bb,0,none⟩,rfl,hat h0 0 _ rfl,hat h0 1 _ rfl,hat h0 2 _ rfl,hat h0 3 _ rfl,hat h0 4 _ rfl,hat h0 5 _ rfl,hat h0 6 _ rfl,hat h0 7 _ rfl,hat h0 8 _ rfl,fun V4 l4=>(Gt (L:=ln) (hln.le l4) (hp0.le (L3.trans l4)) (k:=1000000) ⟨sl.1.mono (by omega),sl.2.1.mono (by omega),sl.2.2.mono (by omega)⟩ s1 s2 (by omega)).mono ?_⟩
   rintro r V5 l5 rfl
   have Ce:=l4.trans l5
   refine ⟨_,rfl,fun z _=>z=aw.va ln p v,⟨fun e0=>?_,fun e0=>?_⟩,?_⟩
   ·have e0:(cq ln p.1 p.2).num.sign=0:=by simpa using e0
    refine ⟨rfl,rfl,_,_,_,_,_,_,_,_,_,⟨bb,0,none⟩,rfl,hat Ce 0 _ rfl,hat Ce 1 _ rfl,hat Ce 2 _ rfl,hat Ce 3 _ rfl,hat Ce 4 _ rfl,hat Ce 5 _ rfl,hat Ce 6 _ rfl,hat Ce 7 _ rfl,hat Ce 8 _ rfl,fun V6 l6=>(lf (hln.le (Ce.trans l6)) sl.1 sl.2.1 sl.2.2 (by omega)).mono ?_⟩
    rintro r V7 l7 gn
    have PZ:=gn
    obtain ⟨d1,d2,d3,d4,d5,d6,rfl,-⟩:=gn
    refine ⟨_,_,_,_,_,_,rfl,fun V8 l8=>(oY (PZ.le l8) (hv0.le (L3.trans (Ce.trans (l6.trans (l7.trans l8))))) (k:=300000) (sl.1.mono (by omega)) (sl.2.1.mono (by omega)) s3 s4 (by omega)).mono ?_⟩
    rintro r V9 l9 gd
    have IB:=gd
    obtain ⟨e1,e2,e3,rfl⟩:=gd.shape
    refine ⟨_,_,_,rfl,fun gQ l10=>(eT (IB.le l10) (iR (k:=300000) (sl.1.mono (by omega)) (sl.2.1.mono (by omega)) s3 s4) (by omega)).mono ?_⟩
    rintro r jw bQ rfl
    refine ⟨_,rfl,_,by and_intros<;>rfl,?_⟩
    unfold aw.va
    rw [if_pos e0];rfl
   ·have e0:¬(cq ln p.1 p.2).num.sign=0:=fun h=>by rw [h] at e0;cases e0
    refine ⟨_,by and_intros<;>rfl,?_⟩
    unfold aw.va
    rw [if_neg e0]
   ·rintro z kv cp rfl
    have IY:=Ce.trans cp
    refine ⟨rfl,fun e1=>⟨rfl,rfl,pl,yj (IY _ _ hb) 9 rfl,pl,a.size,by simp only [Tr.size];omega,by and_intros<;>rfl,a,LS.le IY,MH,rfl,?_⟩,fun e1=>⟨fun e2=>⟨rfl,rfl,pr,yj (IY _ _ hb) 10 rfl,pr,b.size,by simp only [Tr.size];omega,by and_intros<;>rfl,b,htb.le IY,lF,rfl,?_⟩,fun e2 lA bW=>?_⟩⟩
    ·have e1:aw.va ln p v=1:=by simpa using e1
     simp only [aw.gC];rw [if_pos e1]
    ·have e1:¬aw.va ln p v=1:=by simpa using e1
     have e2:aw.va ln p v=-1:=by simpa using e2
     simp only [aw.gC];rw [if_neg e1,if_pos e2]
    ·have e1:¬aw.va ln p v=1:=by simpa using e1
     have e2:¬aw.va ln p v=-1:=by simpa using e2
     simp only [aw.gC];rw [if_neg e1,if_neg e2]
 ·cases t' with
  | node ln a b=>cases hl
  | leaf i=>
   obtain ⟨b,c0,c1,c2,c3,c4,c5,c6,c7,c8,r,rfl,hb⟩:=h'.le bW
   exact ⟨rfl,rfl,i,yj hb 11 rfl,fun qk dK=>rfl⟩
theorem CV (n:Int){d:Nat}(h:d≠0):mkRat n d*((d:Nat):Rat)=(n:Rat):=by
 have hd:((d:Nat):Rat)≠0:=by exact_mod_cast h
 rw [Rat.mkRat_eq_div,Rat.div_def]
 exact aw.inv_mul hd _
theorem Gd {p:Rat×Rat}(h:aw.nz p):gH p.1 p.2>0:=by
 have hd:p.1.den*p.2.den≠0:=Nat.mul_ne_zero p.1.den_nz p.2.den_nz
 have e:=CV (Nat.gcd (p.1.num.natAbs*p.2.den) (p.2.num.natAbs*p.1.den):Nat) hd
 have hg:0<Nat.gcd (p.1.num.natAbs*p.2.den) (p.2.num.natAbs*p.1.den):=by
  apply Nat.pos_of_ne_zero
  intro z
  rw [Nat.gcd_eq_zero_iff] at z
  have z1:p.1=0:=by
   rcases Nat.mul_eq_zero.1 z.1 with e|e
   ·exact Rat.num_eq_zero.1 (by omega)
   ·exact absurd e p.2.den_nz
  have z2:p.2=0:=by
   rcases Nat.mul_eq_zero.1 z.2 with e|e
   ·exact Rat.num_eq_zero.1 (by omega)
   ·exact absurd e p.1.den_nz
  unfold aw.nz at h
  rcases h with h|h
  ·exact h z1
  ·exact h z2
 have d0:((p.1.den*p.2.den:Nat):Rat)>0:=by exact_mod_cast Nat.pos_of_ne_zero hd
 have g0:(((Nat.gcd (p.1.num.natAbs*p.2.den) (p.2.num.natAbs*p.1.den):Nat):Int):Rat)>0:=by exact_mod_cast hg
 show mkRat _ _>0
 generalize mkRat ((Nat.gcd (p.1.num.natAbs*p.2.den) (p.2.num.natAbs*p.1.den):Nat):Int) (p.1.den*p.2.den)=q at *
 by_cases hq:q>0
 ·exact hq
 ·have:=aw.mn (show -q≥0 by grind) (show ((p.1.den*p.2.den:Nat):Rat)≥0 by grind)
  grind
theorem Br {p:Rat×Rat}(h:aw.nz p):∃c:Rat,c>0/\jn p=(c*p.1,c*p.2):=
 ⟨(gH p.1 p.2)⁻¹,Rat.inv_pos.2 (Gd h),Prod.ext (Rat.mul_comm ..) (Rat.mul_comm ..)⟩
theorem s_ {l:L3}(h:¬(l.1=0/\l.2.1=0)):aw.nz (aw.cj l):=by
 unfold aw.nz aw.cj
 by_cases e:l.2.1=0
 ·right
  intro e'
  have:(l.1:Rat)=0:=by grind
  exact h ⟨by exact_mod_cast this,e⟩
 ·left
  show (l.2.1:Rat)≠0
  exact_mod_cast e
def EB (s a:Bool):Int:=if a then 2 else if s then 1 else 0
def eN (t:Tr)(p:Rat×Rat)(c:Int):Prop:=∀D S,aw.Aj D->aw.Fq D S->aw.Ee D (aw.cO t p)->c=EB (aw.anyS t p S) (aw.jx t p S)
theorem ue {t:Tr}{p:Rat×Rat}{D S:List (Rat×Rat)}(h1:aw.Aj D)(h2:aw.Fq D S)(h3:aw.Ee D (aw.cO t p)):eN t p (EB (aw.anyS t p S) (aw.jx t p S)):=by
 intro D' S' g1 g2 g3
 obtain ⟨e1,e2⟩:=aw.K9 h1 h2 g1 g2 h3 g3
 rw [e1,e2]
theorem zi {q:L3->Prop}{t:Tr}(h:t.iU q){p:Rat×Rat}:∀l∈aw.cO t p,q l:=fun l hl=>mQ h l (aw.lY hl).2
theorem Jt {u w:Rat×Rat}(h:aw.cr u w≥0):aw.qj u w (vi u w):=by
 unfold vi
 by_cases g:aw.cr u w>0
 ·rw [if_pos g]
  exact .inl ⟨g,1,1,by decide,by decide,Prod.ext (by unfold aw.wH;grind) (by unfold aw.wH;grind)⟩
 ·rw [if_neg g]
  exact .inr ⟨by grind,1,by decide,Prod.ext (by unfold aw.wH aw.Eb;grind) (by unfold aw.wH aw.Eb;grind)⟩
theorem mW {D:List (Rat×Rat)}(h:aw.Aj D):aw.Fq D (jq D):=by
 unfold jq
 by_cases e:D=[]
 ·rw [if_pos e];exact .inl ⟨e,rfl⟩
 ·rw [if_neg e];exact aw.Jq h (fun u _ w _ hc=>Jt hc) e
theorem Hy (D:List (Rat×Rat)):jq D≠[]:=by
 unfold jq
 by_cases e:D=[]
 ·rw [if_pos e];simp
 ·rw [if_neg e]
  intro h
  have:=congrArg List.length h
  unfold aw.Hx at this
  rw [List.length_map,List.length_range] at this
  exact e (List.length_eq_zero_iff.1 this)
theorem E9 (D:List (Rat×Rat)):(jq D).length<=D.length+1:=by
 unfold jq
 split
 ·simp
 ·unfold aw.Hx;simp
theorem yh (M:List L3):(gU M).length=2*M.length:=by
 induction M with
 | nil=>rfl
 | cons l M ih=>
  have:gU (l::M)=Jf l++gU M:=rfl
  rw [this,List.length_append,ih]
  simp [Jf];omega
theorem pJ:∀(t:Tr)(p:Rat×Rat),(aw.cO t p).length<=t.size
 | .leaf _,_=>Nat.le_refl _
 | .node l a b,p=>by
  have:=pJ a p
  have:=pJ b p
  simp only [aw.cO,List.length_append,Tr.size]
  have h1:(if cq l p.1 p.2=0 then [l] else []).length<=1:=by split<;>simp
  have h2:(if cq l p.1 p.2≥0 then aw.cO a p else []).length<=a.size:=by
   split
   ·omega
   ·simp
  have h3:(if cq l p.1 p.2<=0 then aw.cO b p else []).length<=b.size:=by
   split
   ·omega
   ·simp
  omega
theorem zF {M:List L3}(ho:∀l∈M,¬(l.1=0/\l.2.1=0)){m:List (Rat×Rat)}(pm:m.Perm (gU M))(pw:m.Pairwise fun x y=>¬dg y x<0):aw.Aj (eW eP m)/\aw.Ee (eW eP m) M:=by
 have mem:∀r,r∈m↔∃l∈M,r=jn (aw.cj l)\/r=CW (jn (aw.cj l)):=fun r=>by
  rw [pm.mem_iff]
  unfold gU Jf
  simp only [List.mem_flatMap,List.mem_cons,List.not_mem_nil,or_false]
 have key:=aw.K5 (m:=m) pw ?_ ?_
 ·obtain ⟨k1,k2⟩:=key
  refine ⟨k1,fun l hl=>?_⟩
  obtain ⟨y,hy,c,c0,e⟩:=k2 (jn (aw.cj l)) ((mem _).2 ⟨l,hl,.inl rfl⟩)
  obtain ⟨d,d0,e'⟩:=Br (s_ (ho l hl))
  refine ⟨y,hy,c*d,aw.mp c0 d0,?_⟩
  rw [e,e']
  exact Prod.ext (by show c*(d*_)=_;grind) (by show c*(d*_)=_;grind)
 ·intro r hr
  obtain ⟨l,hl,h⟩:=(mem r).1 hr
  have n0:=s_ (ho l hl)
  obtain ⟨d,d0,e'⟩:=Br n0
  have np:aw.nz (jn (aw.cj l)):=by
   rw [e']
   unfold aw.nz at n0 ⊢
   rcases n0 with n0|n0
   ·exact .inl fun h=>by rcases Rat.mul_eq_zero.1 h with h|h;grind;exact n0 h
   ·exact .inr fun h=>by rcases Rat.mul_eq_zero.1 h with h|h;grind;exact n0 h
  rcases h with rfl|rfl
  ·exact np
  ·unfold aw.nz CW at *
   rcases np with np|np
   ·exact .inl (by show -(jn (aw.cj l)).1≠0;grind)
   ·exact .inr (by show -(jn (aw.cj l)).2≠0;grind)
 ·intro r hr
  obtain ⟨l,hl,h⟩:=(mem r).1 hr
  rcases h with rfl|rfl
  ·exact ⟨_,(mem _).2 ⟨l,hl,.inr rfl⟩,1,by decide,by unfold CW;grind,by unfold CW;grind⟩
  ·exact ⟨_,(mem _).2 ⟨l,hl,.inl rfl⟩,1,by decide,by unfold CW;grind,by unfold CW;grind⟩
theorem ig {t:Tr}{p:Rat×Rat}{S:List (Rat×Rat)}{i:Nat}(h:i<S.length):aw.anyS t p (S.take (i+1))=(aw.anyS t p (S.take i)||(aw.gC t p S[i]).1):=by
 unfold aw.anyS
 rw [←List.take_append_getElem h,List.any_append]
 simp
theorem ie {t:Tr}{p:Rat×Rat}{S:List (Rat×Rat)}{i:Nat}(h:i<S.length):aw.jx t p (S.take (i+1))=(aw.jx t p (S.take i)&&(aw.gC t p S[i]).1):=by
 unfold aw.jx
 rw [←List.take_append_getElem h,List.all_append]
 simp
theorem H5 {t:Tr}{p:Rat×Rat}{S:List (Rat×Rat)}(h:S≠[])(ha:aw.jx t p S=true):aw.anyS t p S=true:=by
 cases S with
 | nil=>exact absurd rfl h
 | cons x r=>
  unfold aw.jx at ha
  unfold aw.anyS
  simp only [List.all_cons,Bool.and_eq_true] at ha
  simp [ha.1]
theorem AD {pv:Value}{p:Rat×Rat}(s1:Sz 1000000 p.1)(s2:Sz 1000000 p.2){t:Tr}{V:View}{q:OA}(h:RT V q t)(ha:t.iU Bd)(ho:t.iU fun l=>¬(l.1=0/\l.2.1=0))(hs:t.size<25)(hso:∀n c,tD n c (gU (aw.cO t p)))(hp:lx V pv p.1 p.2) :
  ab prog 46 #[.pointer q,pv] V fun r V'=>∃c,r=.int .i64 c/\eN t p c:=by
 have hp0:=hp
 obtain ⟨x1,x2,x3,y1,y2,y3,rfl,-⟩:=hp
 refine vu q x1 x2 x3 y1 y2 y3 V _ fun V1 l1=>(Cp s1 s2 t (V:=V1) (lb:=0) (n:=0) (c:=0) (vs:=[]) (o:=[]) (h.le l1) ha (hp0.le l1) (fun h=>absurd rfl h) (fun h=>absurd rfl h) GR.nil (fun h=>absurd rfl h) (by omega)).mono ?_
 rintro r V2 l2 ⟨bm,vm,n1,c1,a1,a2,rfl,a3,a4,a5⟩
 have Ss:vm≠[]->V1.w.heap.size<=bm:=fun h=>(a2 h).elim id fun h=>absurd rfl h.1
 refine ⟨bm,vm,a1,fun h=>.inl (Ss h),none,n1,c1,rfl,fun V3 l3 OS e1 e2=>?_⟩
 have L3:V.Le V3:=l1.trans ((pH l2 (View.Le.refl V1) fun h=>.inl (Ss h)).trans l3)
 rw [List.nil_append] at a3
 have mM:(gU (aw.cO t p)).length<50:=by
  have:=pJ t p
  rw [yh];omega
 refine (yL (V:=V3.aA [vb vm V3.w.heap.size OS]) (lb:=OS) e1 (fun h=>⟨by simp [vt h],e2 h⟩) (a3.mono (V':=V3.aA _) fun _ _ g=>kq.le g fun b o h=>l3 b o h) a4 mM (hso _ _)).mono ?_
 rintro r V4 l4 ⟨Ue,VK,n2,c2,m,b1,b2,rfl,row,rfl,b4,pm,pw⟩
 refine ⟨Ue,VK,b1,b2,none,_,c2,rfl,fun V5 l5 LH e3=>?_⟩
 have L5:V.Le V5:=L3.trans ((pH (V:=V3) (V':=V3) (fun b o h=>l4 b o h) (View.Le.refl V3) fun h=>(b2 h).imp id fun h'=>by rw [h'.2];exact e2 h'.1).trans l5)
 have NA:=pm.length_eq
 have Ui:=ug (e:=eP) (l:=m)
 obtain ⟨ry,cv⟩:=zF (zi ho) pm pw
 refine (Eo (D:=eW eP m) (lu.th e3 (row.le fun _ _ g=>(kq.le g fun b o h=>l5 b o h:kq V5 _ _)) (by decide) b4) (by omega)).mono ?_
 rintro r V6 l6 ⟨q',n3,c3,rfl,hS⟩
 have ne:=Hy (eW eP m)
 have sm:=mW ry
 have sl:=E9 (eW eP m)
 generalize jq (eW eP m)=S at *
 have hl:=hS.len
 subst hl
 refine ⟨q',_,c3,rfl,fun _=>⟨fun z V'=>∃i:Nat,z.2.2=(i:Int)/\i<=S.length/\z.1=aw.anyS t p (S.take i)/\z.2.1=aw.jx t p (S.take i),fun z=>(S.length-z.2.2).toNat,⟨(false,true,0),by and_intros<;>rfl,0,rfl,Nat.zero_le _,rfl,rfl⟩,?_⟩⟩
 rintro ⟨z1,z2,z3⟩ V7 l7 ⟨i,e,hi,f1,f2⟩
 dsimp only at e f1 f2 ⊢
 subst e f1 f2
 have L7:=L5.trans (l6.trans l7)
 refine ⟨rfl,fun hlt=>?_,fun hlt gQ l10=>(En _ _).mono ?_⟩
 ·have hlt:i<S.length:=by have:=of_decide_eq_true hlt;omega
  have w1:i64.wrap ((i:Int)+1)=((i+1:Nat):Int):=by rw [ar (by omega)];rfl
  obtain ⟨ps,x,y,qq,x',y',Vx,a,P7,g0,g1,g2,g3,g4,g5,gu⟩:=zh (hS.le l7 fun _ _ g=>Ch.le g l7) hlt
  rw [w1]
  simp only [Int.toNat_natCast]
  refine ⟨ps,⟨by omega,by omega⟩,x,y,qq,x',y',Vx,a,P7,g0,g1,g2,g3,g4,g5,fun V8 l8=>(oX (p:=p) (v:=S[i]) (s1.mono (by omega)) (s2.mono (by omega)) gu.2.1 gu.2.2 (h.le (L7.trans l8)) ha (hp0.le (L7.trans l8)) (gu.1.le l8)).mono ?_⟩
  rintro r V9 l9 rfl
  refine ⟨_,_,rfl,fun k=>⟨(true,_,((i+1:Nat):Int)),by dsimp only;omega,by and_intros<;>first|rfl|trivial,i+1,rfl,by omega,?_,?_⟩,fun k=>⟨(_,false,((i+1:Nat):Int)),by dsimp only;omega,by and_intros<;>first|rfl|trivial,i+1,rfl,by omega,?_,?_⟩⟩
  ·rw [ig hlt,k,Bool.or_true]
  ·rw [ie hlt,k,Bool.and_true];rfl
  ·rw [ig hlt,k,Bool.or_false];rfl
  ·rw [ie hlt,k,Bool.and_false]
 ·have hlt:i=S.length:=by have:=of_decide_eq_false hlt;omega
  subst hlt
  rintro r jw bQ rfl
  refine ⟨_,rfl,fun kv cp=>⟨_,rfl,?_⟩⟩
  rw [List.take_length]
  have:(if (aw.anyS t p S&&aw.jx t p S)=true then (2:Int) else if aw.anyS t p S=true then 1 else 0)=EB (aw.anyS t p S) (aw.jx t p S):=by
   unfold EB
   cases e:aw.jx t p S
   ·simp
   ·rw [H5 ne e];rfl
  rw [this]
  exact ue ry sm cv
def Ai (V:View)(w:Value)(p:Rat×Rat):Prop:=(∃b q n c q' n' c' d r m e r' m' e',w=.agg #[.bool b,.slice q n c,.slice q' n' c',.bool d,.slice r m e,.slice r' m' e']) /\
 ∀V1,V.Le V1->ab prog 47 #[w] V1 fun r V'=>lx V' r p.1 p.2
theorem Ai.le {V V':View}{w:Value}{p:Rat×Rat}(h:Ai V w p)(l:V.Le V'):Ai V' w p:=⟨h.1,fun V1 l1=>h.2 V1 (l.trans l1)⟩
theorem Ai.of {V:View}{w:Value}{p:Rat×Rat}(h:Kd V w p.1 p.2){k:Nat}(s1:Sz k p.1)(s2:Sz k p.2)(hk:k<=1099511627776):Ai V w p:=by
 refine ⟨?_,fun V1 l1=>Cq (h.le l1) s1 s2 hk⟩
 obtain ⟨b,q,n,c,q',n',c',d,r,m,e,r',m',e',rfl,-⟩:=h
 exact ⟨_,_,_,_,_,_,_,_,_,_,_,_,_,_,rfl⟩
theorem Ai.raw {V:View}{b d:Bool}{q q' r r':OA}{n c n' c' m e m' e':Nat}{xs ys us vs:List Nat}(h1:RD V q n c xs)(h2:RD V q' n' c' ys)(h3:RD V r m e us)(h4:RD V r' m' e' vs)(k1:xs.length<=1000000)(k2:ys.length<=1000000)(k3:us.length<=1000000)(k4:vs.length<=1000000) :
  Ai V (.agg #[.bool b,.slice q n c,.slice q' n' c',.bool d,.slice r m e,.slice r' m' e']) (mkRat (ay b xs) (val ys),mkRat (ay d us) (val vs)):=by
 refine ⟨⟨_,_,_,_,_,_,_,_,_,_,_,_,_,_,rfl⟩,fun V0 l0=>?_⟩
 refine rT b q n c q' n' c' d r m e r' m' e' V0 _ fun V1 l1=>(nT b (h1.le (l0.trans l1)) (h2.le (l0.trans l1)) (by omega) (by omega)).mono ?_
 rintro r V2 l2 g
 have g0:=g
 obtain ⟨x1,x2,x3,rfl⟩:=g.shape
 refine ⟨_,_,_,rfl,fun V3 l3=>(nT d (h3.le (l0.trans (l1.trans (l2.trans l3)))) (h4.le (l0.trans (l1.trans (l2.trans l3)))) (by omega) (by omega)).mono ?_⟩
 rintro r V4 l4 g'
 have g0':=g'
 obtain ⟨y1,y2,y3,rfl⟩:=g'.shape
 exact ⟨_,_,_,rfl,fun V5 l5=>⟨_,_,_,_,_,_,rfl,g0.le (l3.trans (l4.trans l5)),g0'.le l5⟩⟩
theorem Ai.zero {V:View}:Ai V (.agg #[.bool false,.slice none 0 0,.slice none 0 0,.bool false,.slice none 0 0,.slice none 0 0]) (0,0):=by
 have e:mkRat (ay false []) (val [])=0:=by decide
 have:=@Ai.raw V false false none none none none 0 0 0 0 0 0 0 0 [] [] [] [] RD.nil RD.nil RD.nil RD.nil (by decide) (by decide) (by decide) (by decide)
 rw [e] at this
 exact this
theorem zn {l:L3}(h:gT l=true):¬(l.1=0/\l.2.1=0):=by
 unfold gT at h
 rw [Bool.and_eq_true,decide_eq_true_iff] at h
 exact h.1
theorem lK {V:View}{v w:Value}{root:Int}{l:List Nd}(hb:∀x∈l,Bd x.ln)(h:AT V v root l){p:Rat×Rat}(hp:Ai V w p)(s1:Sz 1000000 p.1)(s2:Sz 1000000 p.2)(hs:∀t,kd l root=some t->t.size<25)(hso:∀t,kd l root=some t->∀n c,tD n c (gU (aw.cO t p)))
  {y:Value}(hy:rU V 0 y) :
  ab prog 13 #[v,w] V fun r V'=>(kd l root=none->r=.tuple #[.int .i64 0,y])/\∀t,kd l root=some t->∃c,r=.tuple #[.int .i64 c,.nilIface]/\eN t p c:=by
 have h0:=h
 obtain ⟨q,n,c,rfl,-⟩:=h
 have hp0:=hp
 obtain ⟨⟨b,q1,n1,c1,q2,n2,c2,d,r,m,e,r',m',e',rfl⟩,hp1⟩:=hp
 refine sJ root q n c b q1 n1 c1 q2 n2 c2 d r m e r' m' e' V _ fun V1 l1=>(xC hb (h0.le l1)).mono ?_
 rintro r V2 l2 ⟨a,rfl,ha⟩
 have An:=l1.trans l2
 refine ⟨_,_,rfl,fun g=>⟨y,⟨_,rfl,hy.le An⟩,fun V3 l3=>?_⟩,fun g V4 l4=>(hp1 V4 (An.trans l4)).mono ?_⟩
 ·have g:kd l root=none:=by cases e:kd l root with
   | none=>rfl
   | some t=>rw [e] at g;cases g
  exact ⟨fun _=>rfl,fun t ht=>by rw [g] at ht;cases ht⟩
 ·cases e:kd l root with
  | none=>rw [e] at g;cases g
  | some t=>
   rintro r V5 l5 gp
   have MD:=gp
   obtain ⟨_,_,_,_,_,_,rfl,-⟩:=gp
   have ok:=(CX e).2.2
   refine ⟨_,_,_,_,_,_,rfl,fun V6 l6=>(AD s1 s2 ((ha t e).le (l4.trans (l5.trans l6))) (zl hb e) (ok.imp fun _ h=>zn h) (hs t e) (hso t e) (MD.le l6)).mono ?_⟩
   rintro r V7 l7 ⟨c,rfl,hc⟩
   exact ⟨c,rfl,fun V8 l8=>⟨(fun h=>by cases h),fun t' ht=>by cases ht;exact ⟨c,rfl,hc⟩⟩⟩
def AQ (x:Bool×Bool):Int:=if x.2 then (if x.1 then -2 else -1) else 0
theorem gE {V:View}{v w u:Value}{root:Int}{l:List Nd}(hb:∀x∈l,Bd x.ln)(h:AT V v root l){p d:Rat×Rat}(hp:Ai V w p)(hd:Ai V u d)(s1:Sz 1000000 p.1)(s2:Sz 1000000 p.2)(s3:Sz 300000 d.1)(s4:Sz 300000 d.2)
  {y:Value}(hy:rU V 0 y) :
  ab prog 27 #[v,w,u] V fun r V'=>(kd l root=none->r=.tuple #[.int .i64 0,.bool false,y])/\∀t,kd l root=some t->r=.tuple #[.int .i64 (AQ (aw.gC t p d)),.bool (aw.gC t p d).2,.nilIface]:=by
 have h0:=h
 obtain ⟨q,n,c,rfl,-⟩:=h
 obtain ⟨⟨b,q1,n1,c1,q2,n2,c2,d1,r,m,e,r',m',e',rfl⟩,hp1⟩:=hp
 obtain ⟨⟨b',q3,n3,c3,q4,n4,c4,d2,q5,n5,c5,q6,n6,c6,rfl⟩,hd1⟩:=hd
 refine qV root q n c b q1 n1 c1 q2 n2 c2 d1 r m e r' m' e' b' q3 n3 c3 q4 n4 c4 d2 q5 n5 c5 q6 n6 c6 V _ fun V1 l1=>(xC hb (h0.le l1)).mono ?_
 rintro r V2 l2 ⟨a,rfl,ha⟩
 have An:=l1.trans l2
 refine ⟨_,_,rfl,fun g=>⟨y,⟨_,rfl,hy.le An⟩,fun V3 l3=>?_⟩,fun g V4 l4=>(hp1 V4 (An.trans l4)).mono ?_⟩
 ·have g:kd l root=none:=by cases e:kd l root with
   | none=>rfl
   | some t=>rw [e] at g;cases g
  exact ⟨fun _=>rfl,fun t ht=>by rw [g] at ht;cases ht⟩
 ·cases e:kd l root with
  | none=>rw [e] at g;cases g
  | some t=>
   rintro r V5 l5 gp
   have MD:=gp
   obtain ⟨_,_,_,_,_,_,rfl,-⟩:=gp
   refine ⟨_,_,_,_,_,_,rfl,fun V6 l6=>(hd1 V6 (An.trans (l4.trans (l5.trans l6)))).mono ?_⟩
   rintro r V7 l7 gd
   have IB:=gd
   obtain ⟨_,_,_,_,_,_,rfl,-⟩:=gd
   refine ⟨_,_,_,_,_,_,rfl,fun V8 l8=>(oX s1 s2 s3 s4 ((ha t e).le (l4.trans (l5.trans (l6.trans (l7.trans l8))))) (zl hb e) (MD.le (l6.trans (l7.trans l8))) (IB.le l8)).mono ?_⟩
   rintro r V9 l9 rfl
   have key:∀z:Int,AQ (aw.gC t p d)=z->∀b,(aw.gC t p d).2=b->(some t=none->Value.tuple #[.int .i64 z,.bool b,.nilIface]=.tuple #[.int .i64 0,.bool false,y])/\∀t',some t=some t'->Value.tuple #[.int .i64 z,.bool b,.nilIface]=.tuple #[.int .i64 (AQ (aw.gC t' p d)),.bool (aw.gC t' p d).2,.nilIface]:=by
    rintro z rfl b rfl
    exact ⟨(fun h=>by cases h),fun t' ht=>by cases ht;rfl⟩
   refine ⟨_,_,rfl,fun k gQ l10=>key _ ?_ _ ?_,fun k=>⟨fun k' jw bQ=>key _ ?_ _ ?_,fun k' kv cp=>key _ ?_ _ ?_⟩⟩<;>simp_all [AQ]
theorem nE {V:View}{v w:Value}{root:Int}{l:List Nd}(hb:∀x∈l,Bd x.ln)(h:AT V v root l){p:Rat×Rat}(hp:Ai V w p)(s1:Sz 1000000 p.1)(s2:Sz 1000000 p.2){y:Value}(hy:rU V 0 y) :
  ab prog 26 #[v,w] V fun r V'=>(kd l root=none->r=.tuple #[.int .i64 0,.bool false,y])/\∀t,kd l root=some t->r=.tuple #[.int .i64 (AQ (aw.gC t p (0,0))),.bool (aw.gC t p (0,0)).2,.nilIface]:=by
 have h0:=h
 obtain ⟨q,n,c,rfl,-⟩:=h
 have hp0:=hp
 obtain ⟨⟨b,q1,n1,c1,q2,n2,c2,d1,r,m,e,r',m',e',rfl⟩,hp1⟩:=hp
 refine vH root q n c b q1 n1 c1 q2 n2 c2 d1 r m e r' m' e' V _ fun V1 l1=>(gE (d:=(0,0)) hb (h0.le l1) (hp0.le l1) Ai.zero s1 s2 vo vo (hy.le l1)).mono ?_
 rintro r V2 l2 ⟨g1,g2⟩
 cases e:kd l root with
 | none=>
  rw [g1 e]
  exact ⟨_,_,_,rfl,fun V3 l3=>⟨fun _=>rfl,fun t ht=>by cases ht⟩⟩
 | some t=>
  rw [g2 t e]
  exact ⟨_,_,_,rfl,fun V3 l3=>⟨(fun h=>by cases h),fun t' ht=>by cases ht;rfl⟩⟩
structure PW where
 b1:Bool
 xs:List Nat
 ys:List Nat
 b2:Bool
 us:List Nat
 vs:List Nat
structure PW.short (f:PW):Prop where
 x:f.xs.length<=3
 y:f.ys.length<=3
 u:f.us.length<=3
 v:f.vs.length<=3
def PW.pt (f:PW):Rat×Rat:=(uZ f.b1 f.xs f.ys,uZ f.b2 f.us f.vs)
def DG (V:View)(v:Value)(f:PW):Prop:=∃p n c p' n' c' q m e q' m' e',v=.agg #[.bool f.b1,.slice p n c,.slice p' n' c',.bool f.b2,.slice q m e,.slice q' m' e'] /\
 Ci V (.agg #[.bool f.b1,.slice p n c,.slice p' n' c']) f.b1 f.xs f.ys/\Ci V (.agg #[.bool f.b2,.slice q m e,.slice q' m' e']) f.b2 f.us f.vs
theorem DG.le {V V':View}{v:Value}{f:PW}(h:DG V v f)(l:V.Le V'):DG V' v f:=by
 obtain ⟨p,n,c,p',n',c',q,m,e,q',m',e',rfl,h1,h2⟩:=h
 exact ⟨_,_,_,_,_,_,_,_,_,_,_,_,rfl,h1.le l,h2.le l⟩
theorem PW.sz {V:View}{v:Value}{f:PW}(h:DG V v f)(hs:f.short):Sz 97 f.pt.1/\Sz 97 f.pt.2:=by
 obtain ⟨_,_,_,_,_,_,_,_,_,_,_,_,-,⟨_,_,_,_,_,_,-,h1,h2⟩,⟨_,_,_,_,_,_,-,h3,h4⟩⟩:=h
 exact ⟨yr (k:=3) h1.cN h2.cN hs.x hs.y,yr (k:=3) h3.cN h4.cN hs.u hs.v⟩
theorem DG.Kl {V:View}{v:Value}{f:PW}(h:DG V v f)(hs:f.short):Ai V v f.pt:=by
 obtain ⟨p,n,c,p',n',c',q,m,e,q',m',e',rfl,⟨_,_,_,_,_,_,e1,h1,h2⟩,⟨_,_,_,_,_,_,e2,h3,h4⟩⟩:=h
 cases e1
 cases e2
 exact Ai.raw h1 h2 h3 h4 (by have:=hs.x;omega) (by have:=hs.y;omega) (by have:=hs.u;omega) (by have:=hs.v;omega)
theorem DG.pt {V:View}{v:Value}{f:PW}(h:DG V v f)(hs:f.short):ab prog 32 #[v] V fun r V'=>RP V' r f.pt.1 f.pt.2:=by
 obtain ⟨p,n,c,p',n',c',q,m,e,q',m',e',rfl,h1,h2⟩:=h
 exact Cw rfl h1 h2 (by have:=hs.x;omega) (by have:=hs.y;omega) (by have:=hs.u;omega) (by have:=hs.v;omega)
theorem DG.lens {V:View}{f:PW}{b1:Bool}{p1:OA}{n1 c1:Nat}{p2:OA}{n2 c2:Nat}{b2:Bool}{p3:OA}{n3 c3:Nat}{p4:OA}{n4 c4:Nat}(h:DG V (.agg #[.bool b1,.slice p1 n1 c1,.slice p2 n2 c2,.bool b2,.slice p3 n3 c3,.slice p4 n4 c4]) f) :
  n1=f.xs.length/\n2=f.ys.length/\n3=f.us.length/\n4=f.vs.length:=by
 obtain ⟨p,n,c,p',n',c',q,m,e,q',m',e',e0,⟨_,_,_,_,_,_,e1,h1,h2⟩,⟨_,_,_,_,_,_,e2,h3,h4⟩⟩:=h
 cases e0
 cases e1
 cases e2
 exact ⟨h1.len,h2.len,h3.len,h4.len⟩
theorem Ep {V:View}{bk c:Nat}{b1 p1 n1 c1 p2 n2 c2 b2 p3 n3 c3 p4 n4 c4 d1 q1 m1 e1 q2 m2 e2 d2 q3 m3 e3 q4 m4 e4}{ty:TypeId}(N:Int)
  (h:V.bu bk (.cells #[.bool b1,.slice p1 n1 c1,.slice p2 n2 c2,.bool b2,.slice p3 n3 c3,.slice p4 n4 c4,.bool d1,.slice q1 m1 e1,.slice q2 m2 e2,.bool d2,.slice q3 m3 e3,.slice q4 m4 e4] ty (0,0))) :
  ab prog 28 #[.int .i64 N,.slice (some ⟨bk,0,none⟩) 2 c] V fun r V'=>∃b,r=.bool b/\(b=true->((n1:Int)<=N/\(n2:Int)<=N/\(n3:Int)<=N/\(n4:Int)<=N)/\(m1:Int)<=N/\(m2:Int)<=N/\(m3:Int)<=N/\(m4:Int)<=N):=by
 have hat:∀{V1:View},V.Le V1->∀(o i:Nat)(x:Value),([Value.bool b1,.slice p1 n1 c1,.slice p2 n2 c2,.bool b2,.slice p3 n3 c3,.slice p4 n4 c4,.bool d1,.slice q1 m1 e1,.slice q2 m2 e2,.bool d2,.slice q3 m3 e3,.slice q4 m4 e4]:List Value)[o+i]?=some x->V1.at ((⟨bk,o,none⟩:Addr).add i) x:=fun l o i x hx=>by
  have e:(⟨bk,o,none⟩:Addr).add i=⟨bk,o+i,none⟩:=by rw [←add_zero',kt,add_zero']
  rw [e]
  exact l.at (bU (xs:=[Value.bool b1,.slice p1 n1 c1,.slice p2 n2 c2,.bool b2,.slice p3 n3 c3,.slice p4 n4 c4,.bool d1,.slice q1 m1 e1,.slice q2 m2 e2,.bool d2,.slice q3 m3 e3,.slice q4 m4 e4]) h hx)
 refine sN N _ 2 c V _ ⟨fun z _=>z=0\/(z=1/\((n1:Int)<=N/\(n2:Int)<=N/\(n3:Int)<=N/\(n4:Int)<=N))\/(z=2/\((n1:Int)<=N/\(n2:Int)<=N/\(n3:Int)<=N/\(n4:Int)<=N)/\(m1:Int)<=N/\(m2:Int)<=N/\(m3:Int)<=N/\(m4:Int)<=N),fun z=>(2-z).toNat,⟨0,by and_intros<;>rfl,.inl rfl⟩,?_⟩
 rintro z V1 l1 hz
 refine ⟨rfl,fun hlt=>?_,fun hlt V5 l5=>⟨true,rfl,fun _=>?_⟩⟩
 ·have hlt:z<2:=of_decide_eq_true hlt
  rcases hz with rfl|⟨rfl,g⟩|⟨rfl,-⟩
  ·have w:i64.wrap ((0:Int)+1)=1:=ar (by omega)
   rw [w]
   refine ⟨rfl,⟨by omega,by omega⟩,_,_,_,_,_,_,_,_,_,_,_,_,_,_,(⟨bk,0,none⟩:Addr),by rfl,hat l1 0 0 _ rfl,hat l1 0 1 _ rfl,hat l1 0 2 _ rfl,hat l1 0 3 _ rfl,hat l1 0 4 _ rfl,hat l1 0 5 _ rfl,fun V2 l2 bk2 hb2=>?_⟩
   refine (AA N (J0 hb2) (by simp)).mono ?_
   rintro r V3 l3 ⟨b,rfl,hb⟩
   refine ⟨_,rfl,fun J=>⟨fun h V4 l4=>⟨false,rfl,(fun h=>nomatch h)⟩,fun h=>⟨1,by dsimp only;omega,by and_intros<;>rfl,.inr (.inl ⟨rfl,?_⟩)⟩⟩⟩
   rw [Bool.not_eq_false'] at h
   have:=hb h
   have k1:=this (n1,n2) (by simp)
   have k2:=this (n3,n4) (by simp)
   exact ⟨k1.1,k1.2,k2.1,k2.2⟩
  ·have w:i64.wrap ((1:Int)+1)=2:=ar (by omega)
   rw [w]
   refine ⟨rfl,⟨by omega,by omega⟩,_,_,_,_,_,_,_,_,_,_,_,_,_,_,(⟨bk,6,none⟩:Addr),by rfl,hat l1 6 0 _ rfl,hat l1 6 1 _ rfl,hat l1 6 2 _ rfl,hat l1 6 3 _ rfl,hat l1 6 4 _ rfl,hat l1 6 5 _ rfl,fun V2 l2 bk2 hb2=>?_⟩
   refine (AA N (J0 hb2) (by simp)).mono ?_
   rintro r V3 l3 ⟨b,rfl,hb⟩
   refine ⟨_,rfl,fun J=>⟨fun h V4 l4=>⟨false,rfl,(fun h=>nomatch h)⟩,fun h=>⟨2,by dsimp only;omega,by and_intros<;>rfl,.inr (.inr ⟨rfl,g,?_⟩)⟩⟩⟩
   rw [Bool.not_eq_false'] at h
   have:=hb h
   have k1:=this (m1,m2) (by simp)
   have k2:=this (m3,m4) (by simp)
   exact ⟨k1.1,k1.2,k2.1,k2.2⟩
  ·omega
 ·have hlt:¬z<2:=of_decide_eq_false hlt
  rcases hz with h|⟨h,-⟩|⟨-,h⟩
  ·omega
  ·omega
  ·exact h
end Go.Proofs.Tryz
namespace Go.Proofs.YthpmdmkmfoaamaaGreatDoor
open Go.ChangeShapes Go.WideShapes Go.ChangeAt Go.RowKit Go.bz Go.eM Go.Proofs.Tryz
section
variable {H:Type} {enc:TypeId × Value->H} {W:World} {fuel:Nat}
set_option maxRecDepth 100000 in
theorem Hb {c0 c1 c2 c3 c4 c5:Value}{y:DataW H×List MemPlace}(h:DataW.trod enc Tryz.prog W 0 (fun _=>true) true fuel 50 [c0,c1,c2,c3,c4,c5]=some y):∃f:PW,DG (View.all W) (.agg #[c0,c1,c2,c3,c4,c5]) f:=by
 obtain ⟨xs,m,-,-,-,hl,hf⟩:=DataW.trod_struct Tryz.underlying50 h
 obtain ⟨y0,h0⟩:=cz hf hl 0 rfl (show Tryz.prog.cellsOf 48=3 by kernel_rfl)
 obtain ⟨y1,h1⟩:=cz hf hl 1 rfl (show Tryz.prog.cellsOf 48=3 by kernel_rfl)
 obtain ⟨b1,d1,e1,g1,_,_,_,_,_,_,rfl,rfl,rfl⟩:=Hm h0
 obtain ⟨b2,d2,e2,g2,_,_,_,_,_,_,rfl,rfl,rfl⟩:=Hm h1
 exact ⟨⟨b1,d1,e1,b2,d2,e2⟩,_,_,_,_,_,_,_,_,_,_,_,_,rfl,g1,g2⟩
end
set_option maxRecDepth 100000 in
theorem ye {H:Type}{enc:TypeId×Value->H}{W:World}{r:Reach}{b0:Nat}{v:Value}{d:DataW H}{p:List MemPlace}(hv:Value.okWide Tryz.prog W r b0 50 v)(h:DataW.Trod enc Tryz.prog W 0 (fun _=>true) true 50 v d p):∃f:PW,DG (View.all W) v f:=by
 obtain ⟨⟨cs⟩,rfl,hsz⟩:=okWide_struct Tryz.underlying50 hv
 have hsz:cs.length=6:=hsz.trans (by kernel_rfl)
 obtain ⟨c0,r0,rfl,z0⟩:=cJ hsz
 obtain ⟨c1,r1,rfl,z1⟩:=cJ z0
 obtain ⟨c2,r2,rfl,z2⟩:=cJ z1
 obtain ⟨c3,r3,rfl,z3⟩:=cJ z2
 obtain ⟨c4,r4,rfl,z4⟩:=cJ z3
 obtain ⟨c5,r5,rfl,z5⟩:=cJ z4
 obtain rfl:=List.length_eq_zero_iff.1 z5
 obtain ⟨fuel,hf⟩:=h
 exact Hb hf
end Go.Proofs.YthpmdmkmfoaamaaGreatDoor
namespace Go.Proofs.Tryz
open Go.bz Go.eM
theorem jz {V:View}{v w:Value}{x y x' y':Rat}(h:RP V v x y)(h':RP V w x' y'){k:Nat}(s1:Sz k x)(s2:Sz k y)(s3:Sz k x')(s4:Sz k y')(hk:4*k+4<274877906944) :
  ab prog 60 #[v,w] V fun r V'=>RQ V' r (x*y'-y*x'):=by
 obtain ⟨_,_,_,_,_,_,_,_,_,_,_,_,rfl,h1,h2⟩:=h
 obtain ⟨_,_,_,_,_,_,_,_,_,_,_,_,rfl,h3,h4⟩:=h'
 refine vM _ _ _ _ _ _ _ _ _ _ _ _ _ _ _ _ _ _ _ _ _ _ _ _ _ _ _ _ V _ fun V1 l1=>(bJ (h1.le l1) (h4.le l1) s1 s4 (by omega)).mono ?_
 rintro r V2 l2 g
 have g0:=g
 obtain ⟨_,_,_,_,_,_,rfl⟩:=g.shape
 refine ⟨_,_,_,_,_,_,_,rfl,fun V3 l3=>(bJ (h2.le (l1.trans (l2.trans l3))) (h3.le (l1.trans (l2.trans l3))) s2 s3 (by omega)).mono ?_⟩
 rintro r V4 l4 g'
 have g0':=g'
 obtain ⟨_,_,_,_,_,_,rfl⟩:=g'.shape
 refine ⟨_,_,_,_,_,_,_,rfl,fun V5 l5=>(Ew (g0.le (l3.trans (l4.trans l5))) (g0'.le l5) (s1.mul s4) (s2.mul s3) (by omega)).mono ?_⟩
 rintro r V6 l6 q
 have q0:=q
 obtain ⟨_,_,_,_,_,_,rfl⟩:=q.shape
 exact ⟨_,_,_,_,_,_,_,rfl,fun V7 l7=>q0.le l7⟩
theorem Lz.raw {V:View}{v:Value}{l:L3}{s:Sp}(h:Lz V v l s)(ho:Tz l s){k:Nat}(sl:Fs k l)(ss:s.sz k)(hk:k<=1000000):∃f:FW,OH V v f/\f.ok=true/\f.ln=l/\f.sp=s/\f.short:=by
 obtain ⟨b1,p1,n1,c1,b2,p2,n2,c2,b3,p3,n3,c3,b,p,n,c,p',n',c',d,q,m,e,q',m',e',rfl,h1,h2⟩:=h
 obtain ⟨_,_,_,_,_,_,_,_,_,el,x1,x2,x3⟩:=h1
 have el:=congrArg Array.toList (Value.agg.inj el)
 simp only [List.cons.injEq,Value.bool.injEq,Value.slice.injEq,and_true] at el
 obtain ⟨rfl,⟨rfl,rfl,rfl⟩,rfl,⟨rfl,rfl,rfl⟩,rfl,rfl,rfl,rfl⟩:=el
 obtain ⟨_,_,_,_,_,_,_,_,_,_,_,_,_,_,es,y1,y2⟩:=h2
 have es:=congrArg Array.toList (Value.agg.inj es)
 simp only [List.cons.injEq,Value.bool.injEq,Value.slice.injEq,and_true] at es
 obtain ⟨rfl,⟨rfl,rfl,rfl⟩,⟨rfl,rfl,rfl⟩,rfl,⟨rfl,rfl,rfl⟩,⟨rfl,rfl,rfl⟩⟩:=es
 obtain ⟨ok,can,emp⟩:=ho
 obtain ⟨w1,us,vs,r1,o1,e1,z1⟩:=y1.raw can.1
 obtain ⟨w2,ws,ts,r2,o2,e2,z2⟩:=y2.raw can.2
 have i1:=r1
 have i2:=r2
 obtain ⟨_,_,_,_,_,_,f1,-,-⟩:=i1
 obtain ⟨_,_,_,_,_,_,f2,-,-⟩:=i2
 have f1:=congrArg Array.toList (Value.agg.inj f1)
 have f2:=congrArg Array.toList (Value.agg.inj f2)
 simp only [List.cons.injEq,Value.bool.injEq,Value.slice.injEq,and_true] at f1 f2
 obtain ⟨rfl,-⟩:=f1
 obtain ⟨rfl,-⟩:=f2
 have len:∀{z:Int},Sz k (z:Rat)->(ai z.natAbs).length<=1000000:=fun h=>Nat.le_trans (ah h.1) hk
 have d1:=z1 k ss.1
 have d2:=z2 k ss.2
 refine ⟨⟨decide (l.1<0),ai l.1.natAbs,decide (l.2.1<0),ai l.2.1.natAbs,decide (l.2.2<0),ai l.2.2.natAbs,b,us,vs,d,ws,ts,s.a,s.b⟩,⟨_,_,_,_,_,_,_,_,_,_,_,_,_,_,_,_,_,_,_,_,_,rfl,⟨_,_,_,_,_,_,_,_,_,rfl,x1,x2,x3⟩,⟨_,_,_,_,_,_,_,_,_,_,_,_,rfl,r1,r2⟩⟩,?_,?_,?_,⟨len sl.1,len sl.2.1,len sl.2.2,Nat.le_trans d1.1 hk,Nat.le_trans d1.2 hk,Nat.le_trans d2.1 hk,Nat.le_trans d2.2 hk⟩⟩
 ·have e3:Ok b us vs d ws ts s.a s.b=s:=by unfold Ok;rw [e1,e2]
  unfold FW.ok okW
  dsimp only
  rw [pL,o1,o2,e3,emp]
  show gT l&&true=true
  rw [ok];rfl
 ·unfold FW.ln CS
  dsimp only
  rw [az,az,az]
 ·unfold FW.sp Ok
  dsimp only
  rw [e1,e2]
theorem lL {V:View}{v:Value}{q:Rat}(h:RQ V v q):ab prog 59 #[v] V fun r V'=>r=.int .i64 q.num.sign:=by
 obtain ⟨_,_,_,_,_,_,rfl,h1,-⟩:=h
 exact DP q h1
theorem kI {V:View}{v:Value}{p:Rat×Rat}(h:RP V v p.1 p.2):ab prog 110 #[v] V fun r V'=>r=.int .i64 (aw.half p):=by
 obtain ⟨_,_,_,_,_,_,_,_,_,_,_,_,rfl,hx,hy⟩:=h
 refine xd _ _ _ _ _ _ _ _ _ _ _ _ _ _ V _ fun V1 l1=>(lL (hx.le l1)).mono ?_
 rintro r V2 l2 rfl
 refine ⟨_,rfl,fun V3 l3=>(lL (hy.le (l1.trans (l2.trans l3)))).mono ?_⟩
 rintro r V4 l4 rfl
 have key:∀z:Int,(z=if p.2.num.sign>0\/p.2.num.sign=0/\p.1.num.sign>0 then 1 else if p.2.num.sign<0\/p.1.num.sign<0 then 2 else 0)->Value.int .i64 z=.int .i64 (aw.half p):=fun z e=>by rw [e];rfl
 refine ⟨_,rfl,fun a=>?_,fun a=>?_⟩
 ·have a:p.1.num.sign=0:=by simpa using a
  refine ⟨fun b V5 l5=>key _ ?_,fun b=>⟨fun c V6 l6=>key _ ?_,fun c=>⟨fun d=>⟨fun e V7 l7=>key _ ?_,fun e V8 l8=>key _ ?_⟩,fun d V9 l9=>key _ ?_⟩⟩⟩
  ·have b:p.2.num.sign=0:=by simpa using b
   rw [if_neg (by omega),if_neg (by omega)]
  ·have c:p.2.num.sign>0:=of_decide_eq_true c
   rw [if_pos (.inl c)]
  ·have b:¬p.2.num.sign=0:=by simpa using b
   have d:p.2.num.sign=0:=by simpa using d
   exact absurd d b
  ·have b:¬p.2.num.sign=0:=by simpa using b
   have d:p.2.num.sign=0:=by simpa using d
   exact absurd d b
  ·have b:¬p.2.num.sign=0:=by simpa using b
   have c:¬p.2.num.sign>0:=of_decide_eq_false c
   rw [if_neg (by omega),if_pos (by omega)]
 ·have a:¬p.1.num.sign=0:=by simpa using a
  refine ⟨fun c V6 l6=>key _ ?_,fun c=>⟨fun d=>⟨fun e V7 l7=>key _ ?_,fun e V8 l8=>key _ ?_⟩,fun d V9 l9=>key _ ?_⟩⟩
  ·have c:p.2.num.sign>0:=of_decide_eq_true c
   rw [if_pos (.inl c)]
  ·have d:p.2.num.sign=0:=by simpa using d
   have e:p.1.num.sign>0:=of_decide_eq_true e
   rw [if_pos (.inr ⟨d,e⟩)]
  ·have d:p.2.num.sign=0:=by simpa using d
   have e:¬p.1.num.sign>0:=of_decide_eq_false e
   rw [if_neg (by omega),if_pos (by omega)]
  ·have d:¬p.2.num.sign=0:=by simpa using d
   have c:¬p.2.num.sign>0:=of_decide_eq_false c
   rw [if_neg (by omega),if_pos (by omega)]
theorem K_ (q:Rat):-1<=q.num.sign/\q.num.sign<=1:=by
 rcases Int.lt_trichotomy q.num 0 with h|h|h
 ·rw [Int.sign_eq_neg_one_of_neg h];omega
 ·rw [h];decide
 ·rw [Int.sign_eq_one_of_pos h];omega
theorem nF {V:View}{v w:Value}{a b:Rat×Rat}(h:RP V v a.1 a.2)(h':RP V w b.1 b.2){k:Nat}(s1:Sz k a.1)(s2:Sz k a.2)(s3:Sz k b.1)(s4:Sz k b.2)(hk:4*k+4<274877906944) :
  ab prog 58 #[v,w] V fun r V'=>r=.int .i64 (aw.fk a b):=by
 have h0:=h
 have h0':=h'
 obtain ⟨_,_,_,_,_,_,_,_,_,_,_,_,rfl,-⟩:=h
 obtain ⟨_,_,_,_,_,_,_,_,_,_,_,_,rfl,-⟩:=h'
 refine vK _ _ _ _ _ _ _ _ _ _ _ _ _ _ _ _ _ _ _ _ _ _ _ _ _ _ _ _ V _ fun V1 l1=>(kI (h0.le l1)).mono ?_
 rintro r V2 l2 rfl
 refine ⟨_,rfl,fun V3 l3=>(kI (h0'.le (l1.trans (l2.trans l3)))).mono ?_⟩
 rintro r V4 l4 rfl
 have dK:=l1.trans (l2.trans (l3.trans l4))
 refine ⟨_,rfl,fun g=>⟨fun g' V5 l5=>?_,fun g' V6 l6=>?_⟩,fun g V7 l7=>(jz (h0.le (dK.trans l7)) (h0'.le (dK.trans l7)) s1 s2 s3 s4 hk).mono ?_⟩
 ·unfold aw.fk;rw [if_pos (of_decide_eq_true g')]
 ·have g:aw.half a≠aw.half b:=by simpa using g
  have g':¬aw.half a<aw.half b:=of_decide_eq_false g'
  unfold aw.fk;rw [if_neg g',if_pos (by omega)]
 ·have g:aw.half a=aw.half b:=by simpa using g
  rintro r V8 l8 gc
  have IA:=gc
  obtain ⟨_,_,_,_,_,_,rfl⟩:=gc.shape
  refine ⟨_,_,_,_,_,_,_,rfl,fun V9 l9=>(lL (IA.le l9)).mono ?_⟩
  rintro r gQ l10 rfl
  refine ⟨_,rfl,fun jw bQ=>?_⟩
  have bd:=K_ (a.1*b.2-a.2*b.1)
  rw [ar (by omega)]
  unfold aw.fk;rw [if_neg (by omega),if_neg (by omega)]
  show _=Value.int .i64 (-(a.1*b.2-a.2*b.1).num.sign)
  congr 1;omega
theorem AK {V:View}{v:Value}{p:Rat×Rat}(h:RP V v p.1 p.2){k:Nat}(s1:Sz k p.1)(s2:Sz k p.2)(hk:k<=1099511627776):ab prog 57 #[v] V fun r V'=>RP V' r (-p.1) (-p.2):=by
 obtain ⟨_,_,_,_,_,_,_,_,_,_,_,_,rfl,hx,hy⟩:=h
 refine Ad _ _ _ _ _ _ _ _ _ _ _ _ _ _ V _ fun V1 l1=>(kF (hx.le l1) s1 hk).mono ?_
 rintro r V2 l2 g
 have g0:=g
 obtain ⟨_,_,_,_,_,_,rfl⟩:=g.shape
 refine ⟨_,_,_,_,_,_,_,rfl,fun V3 l3=>(kF (hy.le (l1.trans (l2.trans l3))) s2 hk).mono ?_⟩
 rintro r V4 l4 g'
 have g0':=g'
 obtain ⟨_,_,_,_,_,_,rfl⟩:=g'.shape
 exact ⟨_,_,_,_,_,_,_,rfl,fun V5 l5=>⟨_,_,_,_,_,_,_,_,_,_,_,_,rfl,g0.le (l3.trans (l4.trans l5)),g0'.le l5⟩⟩
theorem tZ {V:View}{v w:Value}{z y:Int}(ha:RI V v z)(hb:RI V w y)(hm:(ai z.natAbs).length+(ai y.natAbs).length<=1099511627776):ab prog 75 #[v,w] V fun r V'=>RI V' r (z*y):=by
 obtain ⟨_,_,_,rfl,h1⟩:=ha
 obtain ⟨_,_,_,rfl,h2⟩:=hb
 exact jX z y h1 h2 hm
theorem ua {pv vv:Value}{p v:Rat×Rat}{k:Nat}(hk1:1000<=k)(hk:16*k+16<274877906944)(s1:Sz k p.1)(s2:Sz k p.2)(s3:Sz k v.1)(s4:Sz k v.2){t:Tr}{V:View}{q:OA}(h:RW V q t)(ha:t.iU Bd)(hp:RP V pv p.1 p.2)(hv:RP V vv v.1 v.2) :
  ab prog 52 #[.pointer q,pv,vv] V fun r V'=>r=.tuple #[.bool (aw.gC t p v).1,.bool (aw.gC t p v).2]:=by
 have hp0:=hp
 have hv0:=hv
 obtain ⟨_,_,_,_,_,_,_,_,_,_,_,_,rfl,-⟩:=hp
 obtain ⟨_,_,_,_,_,_,_,_,_,_,_,_,rfl,-⟩:=hv
 refine sL q _ _ _ _ _ _ _ _ _ _ _ _ _ _ _ _ _ _ _ _ _ _ _ _ _ _ _ _ V _ ⟨fun z k V'=>∃t',RW V' z t'/\t'.iU Bd/\k=t'.size/\aw.gC t' p v=aw.gC t p v,⟨q,t.size,by and_intros<;>rfl,t,h,ha,rfl,rfl⟩,?_⟩
 rintro z m V1 l1 ⟨t',h',ha',rfl,e⟩
 rw [←e]
 clear e h ha t
 cases t' with
 | leaf i=>
  obtain ⟨is,g0,g1⟩:=D6 h'
  exact ⟨rfl,is,is,_,g0,(fun h=>by cases h),fun _=>⟨is,is,_,g1,fun V5 l5=>rfl⟩⟩
 | node ln a b=>
  obtain ⟨bb,i,b1,p1,n1,c1,b2,p2,n2,c2,b3,p3,n3,c3,pl,pr,rfl,hb,hl,LS,htb⟩:=h'
  obtain ⟨hbd,MH,lF⟩:=ha'
  have sl:=hbd.J_
  have ha2:∀{W:View},V1.Le W->∀j v,([.bool b1,.slice p1 n1 c1,.bool b2,.slice p2 n2 c2,.bool b3,.slice p3 n3 c3]:List Value)[j]?=some v->W.at (((⟨bb,0,none⟩:Addr).add 2).add j) v:=by
   intro W hW j v hv
   rw [yz,add_zero']
   refine bU (xs:=[_,_,_,_,_,_,_,_,_,_]) (hW _ _ hb) ?_
   have hj:j<6:=(List.getElem?_eq_some_iff.1 hv).1
   match j,hj,hv with
   | 0,_,h=>exact h
   | 1,_,h=>exact h
   | 2,_,h=>exact h
   | 3,_,h=>exact h
   | 4,_,h=>exact h
   | 5,_,h=>exact h
  have l0:=View.Le.refl V1
  refine ⟨rfl,rfl,rfl,false,yj hb 0 rfl,fun _=>⟨rfl,rfl,b1,p1,n1,c1,b2,p2,n2,c2,b3,p3,n3,c3,(⟨bb,0,none⟩:Addr).add 2,rfl,ha2 l0 0 _ rfl,ha2 l0 1 _ rfl,ha2 l0 2 _ rfl,ha2 l0 3 _ rfl,ha2 l0 4 _ rfl,ha2 l0 5 _ rfl,fun V2 l2=>(Hk (hl.le l2) (hp0.le (l1.trans l2)) (k:=k) ⟨sl.1.mono hk1,sl.2.1.mono hk1,sl.2.2.mono hk1⟩ s1 s2 hk).mono ?_⟩,(fun h=>by cases h)⟩
  rintro r V3 l3 rfl
  have bW:=l2.trans l3
  refine ⟨_,rfl,fun z _=>z=aw.va ln p v,⟨fun e0=>?_,fun e0=>?_⟩,?_⟩
  ·have e0:(cq ln p.1 p.2).num.sign=0:=by simpa using e0
   refine ⟨rfl,rfl,b1,p1,n1,c1,b2,p2,n2,c2,b3,p3,n3,c3,(⟨bb,0,none⟩:Addr).add 2,rfl,ha2 bW 0 _ rfl,ha2 bW 1 _ rfl,ha2 bW 2 _ rfl,ha2 bW 3 _ rfl,ha2 bW 4 _ rfl,ha2 bW 5 _ rfl,fun V4 l4=>(lM (hl.le (bW.trans l4)) sl.1 sl.2.1 sl.2.2 (by omega)).mono ?_⟩
   rintro r V5 l5 gd
   have IB:RP V5 r (aw.cj ln).1 (aw.cj ln).2:=gd
   obtain ⟨_,_,_,_,_,_,_,_,_,_,_,_,rfl,-⟩:=gd
   refine ⟨_,_,_,_,_,_,_,_,_,_,_,_,_,_,rfl,fun V6 l6=>(jz (IB.le l6) (hv0.le (l1.trans (bW.trans (l4.trans (l5.trans l6))))) (k:=k) (sl.2.1.mono hk1) (sl.1.neg.mono hk1) s3 s4 (by omega)).mono ?_⟩
   rintro r V7 l7 gc
   have IA:=gc
   obtain ⟨_,_,_,_,_,_,rfl⟩:=gc.shape
   refine ⟨_,_,_,_,_,_,_,rfl,fun V8 l8=>(lL (IA.le l8)).mono ?_⟩
   rintro r V9 l9 rfl
   refine ⟨_,rfl,_,by and_intros<;>rfl,?_⟩
   unfold aw.va
   rw [if_pos e0,aw.J3];rfl
  ·have e0:¬(cq ln p.1 p.2).num.sign=0:=fun h=>by rw [h] at e0;cases e0
   refine ⟨_,by and_intros<;>rfl,?_⟩
   unfold aw.va
   rw [if_neg e0]
  ·rintro z gQ l10 rfl
   have CP:=bW.trans l10
   refine ⟨rfl,fun e1=>⟨rfl,rfl,pl,yj (CP _ _ hb) 8 rfl,pl,a.size,by simp only [Tr.size];omega,by and_intros<;>rfl,a,LS.le CP,MH,rfl,?_⟩,fun e1=>⟨fun e2=>⟨rfl,rfl,pr,yj (CP _ _ hb) 9 rfl,pr,b.size,by simp only [Tr.size];omega,by and_intros<;>rfl,b,htb.le CP,lF,rfl,?_⟩,fun e2 lA bW=>?_⟩⟩
   ·have e1:aw.va ln p v=1:=by simpa using e1
    simp only [aw.gC];rw [if_pos e1]
   ·have e1:¬aw.va ln p v=1:=by simpa using e1
    have e2:aw.va ln p v=-1:=by simpa using e2
    simp only [aw.gC];rw [if_neg e1,if_pos e2]
   ·have e1:¬aw.va ln p v=1:=by simpa using e1
    have e2:¬aw.va ln p v=-1:=by simpa using e2
    simp only [aw.gC];rw [if_neg e1,if_neg e2]
def nC (V:View)(v:Value)(l:L3):Prop:=RL V v l.1 l.2.1 l.2.2
theorem nC.le {V V':View}{v:Value}{l:L3}(h:nC V v l)(e:V.Le V'):nC V' v l:=RL.le h e
theorem fJ {V:View}{v:Value}{l:L3}(h:nC V v l):∃(b1:Bool)(p1:OA)(n1 c1:Nat)(b2:Bool)(p2:OA)(n2 c2:Nat)(b3:Bool)(p3:OA)(n3 c3:Nat),v=.agg #[.bool b1,.slice p1 n1 c1,.bool b2,.slice p2 n2 c2,.bool b3,.slice p3 n3 c3]:=by
 obtain ⟨_,_,_,_,_,_,_,_,_,e,-⟩:=h;exact ⟨_,_,_,_,_,_,_,_,_,_,_,_,e⟩
theorem zK {V:View}{xs:List Value}{l:L3}(h:nC V (.agg (List.toArray xs)) l):∀v∈xs,v.oneCell'=true:=by
 obtain ⟨_,_,_,_,_,_,_,_,_,_,_,_,e⟩:=fJ h
 have e:=congrArg Array.toList (Value.agg.inj e)
 dsimp only at e
 subst e
 intro v hm
 simp only [List.mem_cons,List.not_mem_nil,or_false] at hm
 rcases hm with rfl|rfl|rfl|rfl|rfl|rfl<;>rfl
theorem QR {b:Bool}{p:OA}{n c:Nat}{b':Bool}{p':OA}{n' c':Nat}{b'':Bool}{p'':OA}{n'' c'':Nat}:∀v∈([.bool b,.slice p n c,.bool b',.slice p' n' c',.bool b'',.slice p'' n'' c'']:List Value),v.oneCell'=true:=by
 intro v hm
 simp only [List.mem_cons,List.not_mem_nil,or_false] at hm
 rcases hm with rfl|rfl|rfl|rfl|rfl|rfl<;>rfl
theorem jA:∀(t:Tr) {V:View} {p:OA},RW V p t->t.size<=1000000->ab prog 54 #[.pointer p] V fun r V'=>∃q n c,r=.slice q n c/\lu 6 nC V' q n t.uI
 | .leaf i,V,p,h,hs=>by
  obtain ⟨s,e0,-⟩:=D6 h
  exact mC p V _ ⟨s,s,_,e0,fun _ V1 l1=>⟨_,_,_,rfl,lu.nil⟩,(fun h=>nomatch h)⟩
 | .node ln a b,V,p,h,hs=>by
  have h0:=h
  obtain ⟨bb,i,b1,p1,n1,c1,b2,p2,n2,c2,b3,p3,n3,c3,pl,pr,rfl,hb,hl,ha,hbb⟩:=h
  have hat:∀j v,([.bool false,.bool i,.bool b1,.slice p1 n1 c1,.bool b2,.slice p2 n2 c2,.bool b3,.slice p3 n3 c3,.pointer pl,.pointer pr]:List Value)[j]?=some v->V.at ((⟨bb,0,none⟩:Addr).add j) v:=by
   intro j v hv;rw [add_zero'];exact bU (xs:=[_,_,_,_,_,_,_,_,_,_]) hb hv
  have ha2:∀j v,([.bool b1,.slice p1 n1 c1,.bool b2,.slice p2 n2 c2,.bool b3,.slice p3 n3 c3]:List Value)[j]?=some v->V.at (((⟨bb,0,none⟩:Addr).add 2).add j) v:=by
   intro j v hv
   rw [yz]
   refine hat (2+j) v ?_
   have hj:j<6:=(List.getElem?_eq_some_iff.1 hv).1
   match j,hj,hv with
   | 0,_,h=>exact h
   | 1,_,h=>exact h
   | 2,_,h=>exact h
   | 3,_,h=>exact h
   | 4,_,h=>exact h
   | 5,_,h=>exact h
  simp only [Tr.size] at hs
  have la:=mS a
  have lb:=mS b
  refine mC _ V _ ⟨rfl,rfl,false,yj hb 0 rfl,(fun h=>nomatch h),fun _=>⟨rfl,rfl,_,_,_,_,_,_,_,_,_,_,_,_,(⟨bb,0,none⟩:Addr).add 2,rfl,ha2 0 _ rfl,ha2 1 _ rfl,ha2 2 _ rfl,ha2 3 _ rfl,ha2 4 _ rfl,ha2 5 _ rfl,rfl,rfl,pl,yj hb 8 rfl,rfl,rfl,pr,yj hb 9 rfl,fun V2 l2=>(jA a (ha.le l2) (by omega)).mono ?_⟩⟩
  rintro r V3 l3 ⟨q,n,c,rfl,g⟩
  obtain rfl:=g.len
  obtain ⟨xs,x1,x2,x3⟩:=qN g (by decide)
  have oc:∀v∈xs,v.oneCell'=true:=fun v hv=>by
   obtain ⟨m,hm,rfl⟩:=List.mem_iff_getElem.1 hv
   exact kU x3 (by decide) (fun _ _=>zK) (by omega) (List.getElem?_eq_getElem hm)
  have r1:Row 6 nC V3 ([.bool b1,.slice p1 n1 c1,.bool b2,.slice p2 n2 c2,.bool b3,.slice p3 n3 c3]:List Value) [ln]:=row_one rfl (hl.le (l2.trans l3))
  refine ⟨_,_,_,rfl,xs,x1,x2,by omega,Nat.le_refl _,Nat.le_refl 6,x2,oc,fun bk J sp c' h1 h2 V4 l4=>(jA b (hbb.le (l2.trans (l3.trans l4))) (by omega)).mono ?_⟩
  rintro r V5 l5 ⟨q',n',c'',rfl,g'⟩
  obtain rfl:=g'.len
  obtain ⟨ys,y1,y2,y3⟩:=qN g' (by decide)
  have Vp:∀v∈ys,v.oneCell'=true:=fun v hv=>by
   obtain ⟨m,hm,rfl⟩:=List.mem_iff_getElem.1 hv
   exact kU y3 (by decide) (fun _ _=>zK) (by omega) (List.getElem?_eq_getElem hm)
  have r2:=oq (sp:=sp) r1 x3 (by decide)
  have hl2:([ln]++a.uI).length=1+a.uI.length:=by simp;omega
  have r3:=oq (sp:=[]) (r2.le fun _ _ g=>nC.le g (l4.trans l5)) y3 (by decide)
  rw [hl2] at r3
  refine ⟨_,_,_,rfl,ys,y1,y2,by omega,h1,?_,y2,Vp,fun bk2 J2 sp2 c3' h3 h4 V6 l6 OR hbk=>⟨_,_,_,rfl,?_⟩⟩
  ·simp only [List.length_append,List.length_take,List.length_cons,List.length_nil,x2]
   omega
  ·have r4:=oq (sp:=sp2) (r2.le fun _ _ g=>nC.le g (l4.trans l5)) y3 (by decide)
   rw [hl2] at r4
   have:=lu.zm hbk (r4.le fun _ _ g=>nC.le g l6)
   have hl3:([ln]++a.uI++b.uI).length=1+a.uI.length+b.uI.length:=by rw [List.length_append,hl2]
   rw [hl3] at this
   exact this
def j9 (x:L3):List L3->List L3
 | []=>[x]
 | y::r=>if nX y x<0 then y::j9 x r else if y=x then y::r else x::y::r
theorem IU {x:L3}:∀(o:List L3)(k:Nat),k<=o.length->(∀j (h:j<o.length),j<k->nX o[j] x<0)->(∀h:k<o.length,¬nX o[k] x<0) ->
  j9 x o=if (∃h:k<o.length,o[k]=x) then o else o.take k++x::o.drop k:=by
 intro o
 induction o with
 | nil=>
  intro k hk _ _
  obtain rfl:k=0:=by simpa using hk
  simp [j9]
 | cons y r ih=>
  intro k hk hlt hge
  cases k with
  | zero=>
   have h0:¬nX y x<0:=hge (by simp)
   unfold j9
   rw [if_neg h0]
   by_cases e:y=x
   ·rw [if_pos e,if_pos ⟨by simp,e⟩]
   ·rw [if_neg e,if_neg (by rintro ⟨_,h⟩;exact e h)]
    rfl
  | succ k=>
   have h0:nX y x<0:=hlt 0 (by simp) (by omega)
   unfold j9
   rw [if_pos h0,ih k (by simpa using hk) (fun j h hj=>hlt (j+1) (by simpa using h) (by omega)) (fun h=>hge (by simpa using h))]
   by_cases e:∃h:k<r.length,r[k]=x
   ·obtain ⟨h1,h2⟩:=e
    rw [if_pos ⟨h1,h2⟩,if_pos ⟨by simpa using h1,h2⟩]
   ·rw [if_neg e,if_neg (by rintro ⟨h1,h2⟩;exact e ⟨by simpa using h1,h2⟩)]
    rfl
def dJ (l:List L3):List L3:=l.foldl (fun o x=>j9 (cK x) o) []
theorem CC {l:List L3}{i:Nat}(h:i<l.length):dJ (l.take (i+1))=j9 (cK l[i]) (dJ (l.take i)):=by
 unfold dJ
 rw [List.take_add_one,List.getElem?_eq_getElem h,List.foldl_append]
 rfl
theorem Bc (x:L3):∀o:List L3,(j9 x o).length<=o.length+1
 | []=>by simp [j9]
 | y::r=>by
  have:=Bc x r
  unfold j9
  split
  ·simp;omega
  ·split<;>simp
theorem xN (l:List L3):(dJ l).length<=l.length:=by
 have:∀(l o:List L3),(l.foldl (fun o x=>j9 (cK x) o) o).length<=o.length+l.length:=by
  intro l
  induction l with
  | nil=>intro o;simp
  | cons x r ih=>
   intro o
   have h1:=ih (j9 (cK x) o)
   have h2:=Bc (cK x) o
   simp only [List.foldl_cons,List.length_cons]
   omega
 have:=this l []
 simpa [dJ] using this
def Bj (a b:L3):Prop:=nX a b<0
theorem Nz {a b c:L3}(h:Bj a b)(h':Bj b c):Bj a c:=by unfold Bj at *;rw [yW] at *;omega
theorem Nw {a b:L3}(h:Bj a b)(h':Bj b a):False:=by unfold Bj at *;rw [yW] at *;omega
theorem Nx {a:L3}(h:Bj a a):False:=Nw h h
theorem Ny {a b:L3}(h:¬Bj a b)(hne:a≠b):Bj b a:=by
 have:¬(a.1=b.1/\a.2.1=b.2.1/\a.2.2=b.2.2):=fun ⟨e1,e2,e3⟩=>hne (Prod.ext e1 (Prod.ext e2 e3))
 unfold Bj at *
 rw [yW] at *
 omega
theorem uz {x y:L3}:∀{o:List L3},y∈j9 x o↔y=x\/y∈o
 | []=>by simp [j9]
 | z::r=>by
  unfold j9
  split
  ·simp only [List.mem_cons,uz (o:=r)]
   constructor
   ·rintro (h|h|h)<;>simp [h]
   ·rintro (h|h|h)<;>simp [h]
  ·split
   ·rename_i e;subst e;simp
   ·simp
theorem Bb {x:L3}:∀{o:List L3},o.Pairwise Bj->(j9 x o).Pairwise Bj
 | [],_=>List.pairwise_singleton _ _
 | z::r,h=>by
  obtain ⟨h1,h2⟩:=List.pairwise_cons.1 h
  unfold j9
  split
  ·rename_i hz
   refine List.pairwise_cons.2 ⟨fun y hy=>?_,Bb h2⟩
   rcases uz.1 hy with rfl|hy
   ·exact hz
   ·exact h1 y hy
  ·rename_i hz
   split
   ·exact h
   ·rename_i hne
    have hx:Bj x z:=Ny hz hne
    refine List.pairwise_cons.2 ⟨fun y hy=>?_,h⟩
    rcases List.mem_cons.1 hy with rfl|hy
    ·exact hx
    ·exact Nz hx (h1 y hy)
theorem iH (l:List L3):(dJ l).Pairwise Bj/\∀x,x∈dJ l↔x∈l.map cK:=by
 have:∀(l o:List L3),o.Pairwise Bj->(l.foldl (fun o x=>j9 (cK x) o) o).Pairwise Bj/\∀x,x∈l.foldl (fun o x=>j9 (cK x) o) o↔x∈o\/x∈l.map cK:=by
  intro l
  induction l with
  | nil=>intro o h;exact ⟨h,fun x=>by simp⟩
  | cons y r ih=>
   intro o h
   obtain ⟨h1,h2⟩:=ih (j9 (cK y) o) (Bb h)
   refine ⟨h1,fun x=>?_⟩
   rw [List.foldl_cons,h2 x,uz,List.map_cons,List.mem_cons]
   constructor
   ·rintro ((h|h)|h)<;>simp [h]
   ·rintro (h|h|h)<;>simp [h]
 obtain ⟨h1,h2⟩:=this l [] List.Pairwise.nil
 exact ⟨h1,fun x=>by rw [dJ,h2 x];simp⟩
theorem wh {V:View}{v:Value}{l:L3}(h:nC V v l):ab prog 108 #[v] V fun r V'=>∃w b,r=.tuple #[w,.bool b]/\nC V' w (cK l):=by
 have h0:=h
 obtain ⟨p1,n1,c1,p2,n2,c2,p3,n3,c3,rfl,h1,h2,h3⟩:=h
 have rev:∀(V3:View),V.Le V3->(l.1<0\/l.1=0/\l.2.1<0)->ab prog 158 #[.agg #[.bool (decide (l.1<0)),.slice p1 n1 c1,.bool (decide (l.2.1<0)),.slice p2 n2 c2,.bool (decide (l.2.2<0)),.slice p3 n3 c3]] V3 fun r V'=>nC V' r (cK l):=fun V3 l3 hc=>by
  refine (AL (a:=l.1) (b:=l.2.1) (c:=l.2.2) (h0.le l3)).mono ?_
  rintro r V4 l4 g
  unfold cK
  rw [if_pos hc]
  exact g
 refine vL _ _ _ _ _ _ _ _ _ _ _ _ V _ fun V1 l1=>(kG l.1 (h1.le l1)).mono ?_
 rintro r V2 l2 rfl
 have L2:=l1.trans l2
 refine ⟨_,rfl,fun hc V3 l3=>(rev V3 (L2.trans l3) (.inl (Int.sign_neg_iff.1 (of_decide_eq_true hc)))).mono ?_,fun hc=>⟨fun h0' V6 l6=>(kG l.2.1 (h2.le (L2.trans l6))).mono ?_,fun hne kv cp=>?_⟩⟩
 ·rintro r V4 l4 g
  have g0:=g
  obtain ⟨_,_,_,_,_,_,_,_,_,_,_,_,rfl⟩:=fJ g
  exact ⟨_,_,_,_,_,_,_,_,_,_,_,_,rfl,fun V5 l5=>⟨_,_,rfl,g0.le l5⟩⟩
 ·have hz:l.1=0:=Int.sign_eq_zero_iff_zero.1 (by simpa using h0')
  rintro r V7 l7 rfl
  have L7:=L2.trans (l6.trans l7)
  refine ⟨_,rfl,fun hd V8 l8=>(rev V8 (L7.trans l8) (.inr ⟨hz,Int.sign_neg_iff.1 (of_decide_eq_true hd)⟩)).mono ?_,fun hd jw bQ=>⟨_,_,rfl,?_⟩⟩
  ·rintro r V9 l9 g
   have g0:=g
   obtain ⟨_,_,_,_,_,_,_,_,_,_,_,_,rfl⟩:=fJ g
   exact ⟨_,_,_,_,_,_,_,_,_,_,_,_,rfl,fun gQ l10=>⟨_,_,rfl,g0.le l10⟩⟩
  ·have hd:=of_decide_eq_false hd
   unfold cK
   rw [if_neg fun h=>hd (Int.sign_neg_iff.2 (h.elim (fun h=>by omega) (·.2)))]
   exact h0.le (L7.trans bQ)
 ·have hc:=of_decide_eq_false hc
  have hne:¬l.1=0:=fun e=>by rw [e] at hne;simp at hne
  refine ⟨_,_,rfl,?_⟩
  unfold cK
  rw [if_neg fun h=>h.elim (fun h=>hc (Int.sign_neg_iff.2 h)) (fun h=>hne h.1)]
  exact h0.le (L2.trans cp)
theorem Hu {V:View}{vs:List Value}{ls:List L3}(h:Row 6 nC V vs ls){i:Nat}(hi:i<ls.length):∃b1 p1 n1 c1 b2 p2 n2 c2 b3 p3 n3 c3,i*6+6<=vs.length/\(vs.drop (i*6)).take 6=[Value.bool b1,.slice p1 n1 c1,.bool b2,.slice p2 n2 c2,.bool b3,.slice p3 n3 c3] /\
  nC V (.agg #[.bool b1,.slice p1 n1 c1,.bool b2,.slice p2 n2 c2,.bool b3,.slice p3 n3 c3]) ls[i]:=by
 obtain ⟨xs,h1,h2,h3⟩:=h.at_ i hi
 have hl:=h.eY (by decide)
 have h20:=h2
 obtain ⟨_,_,_,_,_,_,_,_,_,_,_,_,e⟩:=fJ h2
 have e:=congrArg Array.toList (Value.agg.inj e)
 dsimp only at e
 subst e
 refine ⟨_,_,_,_,_,_,_,_,_,_,_,_,by omega,?_,h20⟩
 apply List.ext_getElem?
 intro j
 rw [List.getElem?_take]
 split
 ·rename_i hj
  rw [List.getElem?_drop]
  exact h3 j _ (List.getElem?_eq_getElem (by show j<6;omega))▸(List.getElem?_eq_getElem (by show j<6;omega)).symm
 ·rename_i hj
  rw [List.getElem?_eq_none (by show 6<=j;omega)]
set_option maxHeartbeats 1000000 in
theorem qC {V:View}{p:OA}{n c:Nat}{ls:List L3}(h:lu 6 nC V p n ls)(hn:ls.length<100000000)(hs:∀l∈ls,Bd l) :
  ab prog 53 #[.slice p n c] V fun r V'=>∃q m e,r=.slice q m e/\lu 6 nC V' q m (dJ ls):=by
 obtain rfl:=h.len
 refine qf p _ c V _ ⟨fun z V'=>∃i:Nat,z.2.2.2=(i:Int)/\i<=ls.length/\GR 6 nC V' z.1 z.2.1 z.2.2.1 (dJ (ls.take i)),fun z=>ls.length-z.2.2.2.toNat,
  ⟨(0,0,[],0),by and_intros<;>rfl,0,rfl,Nat.zero_le _,GR.nil⟩,?_⟩
 rintro ⟨w1,w2,us,z4⟩ V1 l1 ⟨i,e4,WI,hg⟩
 dsimp only at e4 hg
 subst e4
 have g1:=hg.len
 have fc:=hg.le
 have fv:=hg.cap
 have fx:=hg.row
 refine ⟨rfl,fun hlt=>?_,fun hlt lA bW bk hb=>?_⟩
 rotate_left
 ·have hlt:¬(i:Int)<ls.length:=of_decide_eq_false hlt
  obtain rfl:i=ls.length:=by omega
  rw [List.take_length] at g1 fx
  subst g1
  exact ⟨_,_,_,rfl,lu.th hb (fx.le fun _ _ g=>nC.le g bW) (by decide) fc⟩
 have hlt:(i:Int)<ls.length:=of_decide_eq_true hlt
 have hi:i<ls.length:=by omega
 have w:i64.wrap ((i:Int)+1)=((i+1:Nat):Int):=by rw [ar (by omega)];rfl
 dsimp only
 rw [Int.toNat_natCast,w]
 obtain ⟨ad,ha,xs,-,hf,hat⟩:=(h.le l1 fun _ _ g=>nC.le g l1).at_ i hi
 have hf0:=hf
 obtain ⟨_,_,_,_,_,_,_,_,_,_,_,_,ex⟩:=fJ hf
 have ex:=congrArg Array.toList (Value.agg.inj ex)
 dsimp only at ex
 subst ex
 have SN:=CC hi
 have hss:Bd (cK ls[i]):=(hs _ (List.getElem_mem hi)).can
 have WA:(dJ (ls.take i)).length<100000000:=by
  have:=xN (ls.take i)
  rw [List.length_take] at this
  omega
 have SO:∀q∈dJ (ls.take i),Bd q:=fun q hq=>by
  obtain ⟨y,hy,rfl⟩:=List.mem_map.1 ((iH _).2 q |>.1 hq)
  exact (hs y (List.mem_of_mem_take hy)).can
 clear hg
 generalize dJ (ls.take i)=O at *
 refine ⟨lV ha,⟨by omega,by omega⟩,_,_,_,_,_,_,_,_,_,_,_,_,ad,ha,hat 0 _ rfl,hat 1 _ rfl,hat 2 _ rfl,hat 3 _ rfl,hat 4 _ rfl,hat 5 _ rfl,fun V2 l2=>(wh (hf0.le l2)).mono ?_⟩
 generalize cK ls[i]=x at *
 rintro r V3 l3 ⟨wv,bc,rfl,hq⟩
 have hq0:=hq
 obtain ⟨eb,ep,en,ec,fb,fp,fn,fe,gb,gp,gn,gc,rfl⟩:=fJ hq
 refine ⟨_,_,_,_,_,_,_,_,_,_,_,_,_,rfl,fun z _=>∃j:Nat,z=(j:Int)/\j<=O.length/\∀(i':Nat)(h:i'<O.length),i'<j->nX O[i'] x<0,fun z=>O.length-z.toNat,⟨0,by and_intros<;>rfl,0,rfl,Nat.zero_le _,fun i' _ h=>absurd h (Nat.not_lt_zero i')⟩,?_⟩
 rintro z V4 l4 ⟨j,rfl,S7,jl⟩
 have wj:i64.wrap ((j:Int)+1)=((j+1:Nat):Int):=by rw [ar (by omega)];rfl
 rw [Int.toNat_natCast,wj]
 have dK:=l2.trans (l3.trans l4)
 refine ⟨rfl,fun z _=>z=true↔∃h:j<O.length,nX O[j] x<0,⟨fun hlt=>?_,fun hlt=>⟨false,by and_intros<;>rfl,?_⟩⟩,?_⟩
 ·have hlt:(j:Int)<(w1:Int):=of_decide_eq_true hlt
  have hj:j<O.length:=by omega
  obtain ⟨b1,p1,n1,c1,b2,p2,n2,c2,b3,p3,n3,c3,fl,PO,hr⟩:=Hu fx hj
  refine ⟨⟨by omega,by omega⟩,fc,b1,p1,n1,c1,b2,p2,n2,c2,b3,p3,n3,c3,⟨fl,PO⟩,fun V5 l5=>(rv (hr.le (dK.trans l5)) (hq0.le (l4.trans l5)) (SO _ (List.getElem_mem hj)).J_ hss.J_ (by omega)).mono ?_⟩
  rintro r V6 l6 rfl
  exact ⟨_,rfl,_,by and_intros<;>rfl,by dsimp only;rw [decide_eq_true_eq];exact ⟨fun h=>⟨hj,h⟩,fun ⟨_,h⟩=>h⟩⟩
 ·have hlt:¬(j:Int)<(w1:Int):=of_decide_eq_false hlt
  exact ⟨(fun h=>nomatch h),fun ⟨h,_⟩=>absurd h (by omega)⟩
 rintro z V7 l7 S6
 refine ⟨rfl,fun hz=>?_,fun hz=>?_⟩
 ·obtain ⟨hj,hx'⟩:=S6.1 hz
  refine ⟨((j+1:Nat):Int),by dsimp only;omega,by and_intros<;>rfl,j+1,rfl,hj,fun i' h hi'=>?_⟩
  by_cases e:i'=j
  ·subst e;exact hx'
  ·exact jl i' h (by omega)
 have hge:∀h:j<O.length,¬nX O[j] x<0:=fun h h'=>by
  have:=S6.2 ⟨h,h'⟩
  rw [hz] at this;cases this
 have hins:=IU O j S7 jl hge
 have cQ:=dK.trans l7
 refine ⟨fun z _=>z=true↔¬∃h:j<O.length,O[j]=x,⟨fun he=>⟨true,by and_intros<;>rfl,?_⟩,fun he=>?_⟩,?_⟩
 ·have he:(j:Int)=(w1:Int):=by simpa using he
  exact ⟨fun _ ⟨h,_⟩=>absurd h (by omega),fun _=>rfl⟩
 ·have he:¬(j:Int)=(w1:Int):=by simpa using he
  have hj:j<O.length:=by omega
  obtain ⟨b1,p1,n1,c1,b2,p2,n2,c2,b3,p3,n3,c3,fl,PO,hr⟩:=Hu fx hj
  refine ⟨⟨by omega,by omega⟩,fc,b1,p1,n1,c1,b2,p2,n2,c2,b3,p3,n3,c3,⟨fl,PO⟩,fun V8 l8=>(rv (hr.le (cQ.trans l8)) (hq0.le (l4.trans (l7.trans l8))) (SO _ (List.getElem_mem hj)).J_ hss.J_ (by omega)).mono ?_⟩
  rintro r V9 l9 rfl
  exact ⟨_,rfl,_,by and_intros<;>rfl,by dsimp only;rw [bne_iff_ne,ne_eq,Ip];exact ⟨fun h ⟨_,h'⟩=>h h',fun h h'=>h ⟨hj,h'⟩⟩⟩
 rintro z gQ l10 M7
 have CP:=cQ.trans l10
 refine ⟨rfl,fun hz jw bQ bk hb J=>?_,fun hz=>?_⟩
 ·have hne:=M7.1 hz
  rw [if_neg hne] at hins
  have Ww:=fx.eY (by decide)
  have PS:=fx.le (V':=jw) fun _ _ g=>nC.le g (CP.trans bQ)
  have hq12:=hq0.le (l4.trans (l7.trans (l10.trans bQ)))
  have t1:(us.take (j*6)).length=j*6:=by rw [List.length_take];omega
  have t2:((us.take (O.length*6)).drop (j*6)).length=(w1-j)*6:=by rw [List.length_drop,List.length_take,g1];omega
  have oc:∀v∈(us.take (O.length*6)).drop (j*6),v.oneCell'=true:=by
   intro v oP
   obtain ⟨m,hm,e⟩:=List.mem_iff_getElem.1 (List.mem_of_mem_drop oP)
   have hm':m<O.length*6:=by rw [List.length_take] at hm;omega
   have:=List.getElem?_eq_getElem hm
   rw [e,List.getElem?_take,if_pos hm'] at this
   exact kU fx (by decide) (fun _ _=>zK) hm' this
  have hmem:0<w2->us≠[]:=fun hw e=>by rw [e] at fv;simp at fv;omega
  have IK:0<w2->mA bk w2=some ⟨bk,0,none⟩:=fun hw=>by unfold mA;rw [if_neg (by omega)]
  have at_:∀m v,m<O.length*6->us[m]?=some v->jw.at ⟨bk,m,none⟩ v:=fun m v hm oP=>bU (hb (hmem (by omega))) oP
  refine ⟨⟨by omega,by omega⟩,⟨by omega,by omega⟩,⟨by omega,by omega⟩,(us.take (O.length*6)).drop (j*6),?_,t2,by omega,Nat.le_refl _,Nat.le_refl 6,t2,oc,fun bk2 J2 sp c' h1 h2=>?_⟩
  ·intro m v hm
   have hml:=(List.getElem?_eq_some_iff.1 hm).1
   rw [t2] at hml
   rw [List.getElem?_drop,List.getElem?_take,if_pos (by omega)] at hm
   have:=at_ (j*6+m) v (by omega) hm
   refine ⟨⟨bk,j*6,none⟩,?_,?_⟩
   ·unfold lE
    rw [if_neg (by omega),IK (by omega)]
    simp [ag,add_zero']
   ·rw [←add_zero',tH,add_zero'];exact this
  ·have hrl:([.bool eb,.slice ep en ec,.bool fb,.slice fp fn fe,.bool gb,.slice gp gn gc]++(us.take (O.length*6)).drop (j*6):List Value).length=(1+(w1-j))*6:=by
    rw [List.length_append,t2];simp only [List.length_cons,List.length_nil];omega
   have hrt:bX (([.bool eb,.slice ep en ec,.bool fb,.slice fp fn fe,.bool gb,.slice gp gn gc]:List Value).take (1*6)++(us.take (O.length*6)).drop (j*6)++sp) 0 ((1+(w1-j))*6)=[.bool eb,.slice ep en ec,.bool fb,.slice fp fn fe,.bool gb,.slice gp gn gc]++(us.take (O.length*6)).drop (j*6):=by
    have e3:(([.bool eb,.slice ep en ec,.bool fb,.slice fp fn fe,.bool gb,.slice gp gn gc]:List Value).take (1*6))=[.bool eb,.slice ep en ec,.bool fb,.slice fp fn fe,.bool gb,.slice gp gn gc]:=rfl
    rw [e3]
    unfold bX
    rw [Nat.ble_eq_true_of_le (by rw [List.length_append,hrl];omega),cond_true,List.drop_zero,List.take_append_of_le_length (by rw [hrl];exact Nat.le_refl _),List.take_of_length_le (by rw [hrl];exact Nat.le_refl _)]
   have hr3:(1+(w1-j))*6 / 6=1+(w1-j):=Nat.mul_div_cancel _ (by decide)
   rw [hrt,hrl,hr3]
   refine ⟨us.take (j*6),?_,t1,Nat.le_refl _,?_,by omega,by omega,rfl,?_,fun sp2 c2' h3 h4=>⟨(j+(1+(w1-j)),c2',_,((i+1:Nat):Int)),by dsimp only;omega,by and_intros<;>first|rfl|omega,i+1,rfl,hi,?_⟩⟩
   ·intro m v hm
    have hml:=(List.getElem?_eq_some_iff.1 hm).1
    rw [t1] at hml
    rw [List.getElem?_take,if_pos hml] at hm
    exact ⟨⟨bk,0,none⟩,IK (by omega),by rw [add_zero'];exact at_ m v (by omega) hm⟩
   ·intro hN
    by_cases hw:0<w2
    ·rw [IK hw] at hN;cases hN
    ·omega
   ·intro v oP
    rcases List.mem_append.1 oP with oP|oP
    ·exact QR v oP
    ·exact oc v oP
   ·show GR 6 nC _ _ _ _ (dJ (ls.take (i+1)))
    rw [SN,hins]
    refine ⟨?_,h3,?_,Db PS S7 rfl hq12 (by decide)⟩
    ·show j+(1+(w1-j))=_
     rw [List.length_append,List.length_take,List.length_cons,List.length_drop]
     omega
    ·dsimp only
     rw [List.length_append,List.length_append,t1,hrl]
     omega
 ·have hex:∃h:j<O.length,O[j]=x:=Classical.byContradiction fun h=>by have:=M7.2 h;rw [hz] at this;cases this
  rw [if_pos hex] at hins
  refine ⟨(w1,w2,us,((i+1:Nat):Int)),by dsimp only;omega,by and_intros<;>rfl,i+1,rfl,hi,?_⟩
  show GR 6 nC _ _ _ _ (dJ (ls.take (i+1)))
  rw [SN,hins]
  exact ⟨g1,fc,fv,fx.le fun _ _ g=>nC.le g CP⟩
theorem wz {V:View}{p:OA}{t:Tr}(h:RW V p t)(ha:t.iU Fp)(hs:t.size<=1000000):ab prog 18 #[.pointer p] V fun r V'=>∃q n c,r=.slice q n c/\lu 6 nC V' q n (dJ t.uI):=by
 refine vQ p V _ fun V1 l1=>(jA t (h.le l1) hs).mono ?_
 rintro r V2 l2 ⟨q,n,c,rfl,g⟩
 refine ⟨_,_,_,rfl,fun V3 l3=>(qC (g.le l3 fun _ _ g=>nC.le g l3) (by rw [mS];omega) fun l hl=>(mQ ha l hl).2).mono ?_⟩
 rintro r V4 l4 ⟨q',m,e,rfl,g'⟩
 exact ⟨_,_,_,rfl,fun V5 l5=>⟨_,_,_,rfl,g'.le l5 fun _ _ g=>nC.le g l5⟩⟩
end Go.Proofs.Tryz
namespace Go.Proofs.Tryz
open Go.bz
set_option maxRecDepth 100000
end Go.Proofs.Tryz
namespace Go.Proofs.Tryz
open Go.bz Go.eM
theorem I4 {V:View}{p:OA}{n:Nat}{al:List L3}(h:lu 6 nC V p n al){i:Nat}(hi:i<al.length) :
  p.isSome=true/\∃(b1:Bool)(p1:OA)(n1 c1:Nat)(b2:Bool)(p2:OA)(n2 c2:Nat)(b3:Bool)(p3:OA)(n3 c3:Nat)(a:Addr),ag p (i*6)=some a/\V.at (a.add 0) (.bool b1)/\V.at (a.add 1) (.slice p1 n1 c1)/\V.at (a.add 2) (.bool b2)/\V.at (a.add 3) (.slice p2 n2 c2)/\V.at (a.add 4) (.bool b3)/\V.at (a.add 5) (.slice p3 n3 c3) /\
   nC V (.agg #[.bool b1,.slice p1 n1 c1,.bool b2,.slice p2 n2 c2,.bool b3,.slice p3 n3 c3]) al[i]:=by
 obtain ⟨ad,h0,xs,h1,h2,h3⟩:=h.at_ i hi
 have h20:=h2
 obtain ⟨_,_,_,_,_,_,_,_,_,_,_,_,e⟩:=fJ h2
 have e:=congrArg Array.toList (Value.agg.inj e)
 dsimp only at e
 subst e
 refine ⟨?_,_,_,_,_,_,_,_,_,_,_,_,_,ad,h0,h3 0 _ rfl,h3 1 _ rfl,h3 2 _ rfl,h3 3 _ rfl,h3 4 _ rfl,h3 5 _ rfl,h20⟩
 cases p with
 | none=>cases h0
 | some a=>rfl
theorem F8 {q:L3->Prop}(hq:∀l,q l->q (cK l)){ls:List L3}(h:∀l∈ls,q l):∀l∈dJ ls,q l:=fun l hl=>by
 obtain ⟨m,hm,rfl⟩:=List.mem_map.1 ((iH ls).2 l |>.1 hl)
 exact hq m (h m hm)
theorem Hw {V:View}{t:Tr}{p:OA}(h:RW V p t):p.isSome=true:=by
 cases t with
 | leaf i=>obtain ⟨b,c2,c3,c4,c5,c6,c7,c8,c9,rfl,hb⟩:=h;rfl
 | node l x y=>obtain ⟨b,i,b1,p1,n1,c1,b2,p2,n2,c2,b3,p3,n3,c3,pl,pr,rfl,-⟩:=h;rfl
theorem Im:∀(t:Tr) {V:View} {p:OA} {lb:Nat} {n c:Nat} {vs:List Value} {l:List Nd},RW V p t->t.iU Fp->n=l.length ->
  (vs≠[]->V.w.heap[lb]?=some (.cells vs.toArray 76 (0,0)))->(vs≠[]->V.X lb)->n<=c->c*8<=vs.length->NR V vs l->n+t.size<=1000000 ->
  ab prog 48 #[.pointer p,.slice (mA lb c) n c] V fun r V'=>∃(bm:Nat)(vm:List Value)(c':Nat),(vm≠[]->V'.w.heap[bm]?=some (.cells vm.toArray 76 (0,0)))/\(vm≠[]->V.w.heap.size<=bm\/(vs≠[]/\bm=lb)) /\
   r=.tuple #[.slice (mA bm c') (n+t.size) c',.int .i64 (rt n t)]/\n+t.size<=c'/\c'*8<=vm.length/\NR (V'.bR (vm≠[]) bm) vm (l++wr n t):=by
 intro t
 induction t with
 | leaf i=>
  intro V p lb n c vs l hp _ hn hv hxv hnc hcv hnr hsz
  have hs:=Hw hp
  obtain ⟨b,c2,c3,c4,c5,c6,c7,c8,c9,rfl,hb⟩:=hp
  have fin:∀(V3:View)(bk:Nat)(x:Int),V.Le (V3.bR (vs≠[]) bk)->(vs≠[]->V3.w.heap[bk]?=some (.cells vs.toArray 76 (0,0))) ->
    (vs≠[]->V.w.heap.size<=bk\/(vs≠[]/\bk=lb)\/False)->x=rt n (.leaf i)->∃(bm:Nat)(vm:List Value)(c':Nat),(vm≠[]->V3.w.heap[bm]?=some (.cells vm.toArray 76 (0,0)))/\(vm≠[]->V.w.heap.size<=bm\/(vs≠[]/\bm=lb)) /\
   Value.tuple #[.slice (mA bk c) n c,.int .i64 x]=.tuple #[.slice (mA bm c') (n+(Tr.leaf i).size) c',.int .i64 (rt n (.leaf i))]/\n+(Tr.leaf i).size<=c'/\c'*8<=vm.length/\NR (V3.bR (vm≠[]) bm) vm (l++wr n (.leaf i)):=by
   intro V3 bk x hle e3 e4 hx
   refine ⟨bk,vs,c,e3,fun h=>?_,by rw [hx];rfl,hnc,hcv,?_⟩
   ·rcases e4 h with h|h|h
    ·exact .inl h
    ·exact .inr h
    ·exact h.elim
   ·simp only [wr,List.append_nil]
    exact hnr.le hle
  refine mD _ lb n c vs V _ hv hxv ⟨hs,hs,true,yj hb 0 rfl,fun _=>⟨hs,hs,i,yj hb 1 rfl,fun hi V1 bk a1 a2 a3=>fin V1 bk _ a1 a2 a3 (by subst hi;rfl),fun hi V2 bk a1 a2 a3=>fin V2 bk _ a1 a2 a3 (by subst hi;rfl)⟩,fun h=>by cases h⟩
 | node ln x y JV ihy=>
  intro V p lb n c vs l hp hall hn hv hxv hnc hcv hnr hsz
  have hs:=Hw hp
  simp only [Tr.size] at hsz
  obtain ⟨⟨-,hbd⟩,hax,UL⟩:=hall
  obtain ⟨b,i,b1,p1,n1,c1,b2,p2,n2,c2,b3,p3,n3,c3,pl,pr,rfl,hb,hl,hx,hy⟩:=hp
  have hat:∀j v,([.bool b1,.slice p1 n1 c1,.bool b2,.slice p2 n2 c2,.bool b3,.slice p3 n3 c3]:List Value)[j]?=some v->V.at (((⟨b,2,none⟩:Addr)).add j) v:=by
   intro j v hv
   have hj:j<6:=by
    rcases Nat.lt_or_ge j 6 with hj|hj
    ·exact hj
    ·rw [List.getElem?_eq_none (by simpa using hj)] at hv;cases hv
   have h2:(⟨b,2,none⟩:Addr)=(⟨b,0,none⟩:Addr).add 2:=by rw [add_zero']
   rw [h2,yz,add_zero']
   refine bU (xs:=[_,_,_,_,_,_,_,_,_,_]) hb ?_
   match j,hj,hv with
   | 0,_,hv=>exact hv
   | 1,_,hv=>exact hv
   | 2,_,hv=>exact hv
   | 3,_,hv=>exact hv
   | 4,_,hv=>exact hv
   | 5,_,hv=>exact hv
  obtain ⟨t1,t2,t3⟩:=hbd.ai
  refine mD _ lb n c vs V _ hv hxv ⟨hs,hs,false,yj hb 0 rfl,(fun h=>by cases h),fun _=>⟨hs,hs,b1,p1,n1,c1,b2,p2,n2,c2,b3,p3,n3,c3,⟨b,2,none⟩,by simp [ag,add_zero'],hat 0 _ rfl,hat 1 _ rfl,hat 2 _ rfl,hat 3 _ rfl,hat 4 _ rfl,hat 5 _ rfl,fun V3 l3=>(AO (hl.le l3) (by omega) (by omega) (by omega)).mono ?_⟩⟩
  rintro r V4 l4 SP
  have P4:=SP
  obtain ⟨d1,q1,m1,e1,d2,q2,m2,e2,d3,q3,m3,e3,rfl⟩:=Eg SP
  have Fy:=l3.trans l4
  refine ⟨_,_,_,_,_,_,_,_,_,_,_,_,rfl,by omega,hnc,hcv,rfl,by intro v hv;simp at hv;rcases hv with rfl|rfl|rfl|rfl|rfl|rfl|rfl|rfl<;>rfl,fun sp c' g1 g2=>?_⟩
  have hb4:=Fy _ _ hb
  refine ⟨hs,hs,pl,yj hb4 8 rfl,fun V5 l5 bk1 f1 f2=>?_⟩
  have hpush:=NR.push (sp:=sp) (x:=0) (y:=0) (hnr.le Fy) (by omega) (ln:=ln) P4
  rw [←hn] at hpush
  generalize hrow:vs.take (n*8)++([_,_,_,_,_,_,_,_]:List Value)++sp=row at f1 f2 hpush ⊢
  have hrl:row.length=n*8+8+sp.length:=by
   rw [←hrow];simp only [List.length_append,List.length_take,List.length_cons,List.length_nil];omega
  have Qm:row≠[]:=fun e=>by rw [e] at hrl;simp only [List.length_nil] at hrl;omega
  have ER:=Fy.trans l5
  have i1:=JV (V:=V5.aA [vb row V5.w.heap.size bk1]) (p:=pl) (lb:=bk1) (n:=n+1) (c:=c') (vs:=row) (l:=l++[⟨ln,0,0⟩]) (RW.le (V:=V) (V':=V5.aA _) (fun b o h=>ER b o h) hx) hax (by simp [hn]) f1 (fun h=>⟨by simp [vt h],f2 h⟩) g1 (by omega) (NR.le (V:=V4) (V':=V5.aA _) hpush fun b o h=>l5 b o h) (by omega)
  refine i1.mono ?_
  rintro r V6 l6 ⟨bm,vm,c1',a1,a2,rfl,a5,a6,a7⟩
  have Vg:V5.Le V6:=fun b o h=>l6 b o h
  have Tc:V5.Le (V6.shut.bR (vm≠[]) bm):=pH (V':=V5) Vg (View.Le.refl V5) fun h=>(a2 h).imp id fun h'=>by rw [h'.2];exact f2 Qm
  refine ⟨bm,vm,a1,a2,none,_,_,_,rfl,hs,hs,pr,yj ((ER.trans Tc) _ _ hb) 9 rfl,fun V7 l7 bk2 d1 d2=>?_⟩
  have S2:vm≠[]:=fun e=>by rw [e] at a6;simp at a6;omega
  have Gw:V.Le V7:=(ER.trans Tc).trans l7
  have i2:=ihy (V:=V7.aA [vb vm V7.w.heap.size bk2]) (p:=pr) (lb:=bk2) (n:=n+1+x.size) (c:=c1') (vs:=vm) (l:=l++[⟨ln,0,0⟩]++wr (n+1) x) (RW.le (V:=V) (V':=V7.aA _) (fun b o h=>Gw b o h) hy) UL (by simp [hn,dI];omega) d1 (fun h=>⟨by simp [vt h],d2 h⟩) a5 a6 (NR.le (V:=V6.bR (vm≠[]) bm) (V':=V7.aA _) a7 fun b o h=>l7 b o h) (by omega)
  refine i2.mono ?_
  rintro r V8 l8 ⟨bn,vn,c2',b1',b2',rfl,b5,b6,b7⟩
  have hlen:n*8+8<=vn.length:=by omega
  simp only [Int.toNat_natCast]
  refine ⟨bn,vn,b1',b2',none,_,_,_,rfl,⟨by omega,by omega⟩,b5,by omega,⟨by omega,by omega⟩,b5,by rw [List.length_set];omega,fun V9 OR u1 u4 u5=>?_⟩
  have hfin:=NR.kids (V:=V8.bR (vn≠[]) bn) (l:=l) (r:=wr (n+1) x++wr (n+1+x.size) y) (ln:=ln) (u:=0) (v:=0) (x:=rt (n+1) x) (y:=rt (n+1+x.size) y) (by simpa using b7)
  rw [←hn] at hfin
  refine ⟨OR,_,c2',u4,fun h=>?_,by rw [show n+(Tr.node ln x y).size=n+1+x.size+y.size from by simp only [Tr.size];omega];rfl,by simp only [Tr.size];omega,by simp only [List.length_set];omega,?_⟩
  ·rcases u5 h with h|h|h
   ·exact .inl h
   ·exact .inr h
   ·exact h.elim
  ·simp only [wr]
   exact NR.le (V:=V8.bR (vn≠[]) bn) hfin fun b o h=>u1 b o h
theorem wA {V:View}{p:OA}{t:Tr}(h:RW V p t)(ha:t.iU Fp)(hs:t.size<=1000000) :
  ab prog 14 #[.pointer p] V fun r V'=>AT V' r (rt 0 t) (wr 0 t):=by
 refine vR p V _ fun V1 l1=>?_
 refine ab.ND (Im t (V:=V1) (lb:=0) (vs:=[]) (l:=[]) (n:=0) (c:=0) (h.le l1) ha rfl (fun h=>absurd rfl h) (fun h=>absurd rfl h) (Nat.le_refl _) (Nat.le_refl _) (fun i d hd=>by simp at hd) (by omega)) ?_
 rintro r V2 l2 hH ⟨bm,vm,c',a1,a2,rfl,a5,a6,a7⟩
 refine ⟨bm,vm,a1,fun h=>(a2 h).imp id fun h'=>absurd rfl h'.1,none,_,_,_,rfl,fun V3 l3 bk hb=>?_⟩
 simp only [List.nil_append,Nat.zero_add] at a7 a5 ⊢
 have:=NS.ofRow (V:=V3) (b:=bk) (c:=c') (vm:=vm) (l:=wr 0 t) (ty:=76) hb (by rw [dI];exact a5) (a7.le fun b o h=>l3 b o h)
 rw [dI] at this
 exact ⟨_,_,_,rfl,this⟩
end Go.Proofs.Tryz
namespace Go.bz
def View.bare (V:View)(b:Nat):View:=⟨V.w,fun x=>V.H x/\x≠b,fun x=>V.X x/\x≠b,fun x h=>V.hH x h.1,fun x h=>⟨V.hX x h.1,h.2⟩⟩
theorem View.H9 (V:View)(b:Nat):V.Le (V.bare b):=fun _ _ h=>⟨fun hh=>h.1 hh.1,h.2⟩
theorem ab.bare {P:Program}{f:FuncId}{args:Array Value}{V:View}{b:Nat}{R:Value->View->Prop}(hs:b<V.w.heap.size)(h:ab P f args (V.bare b) R) :
  ab P f args V fun r V'=>V'.w.heap[b]?=V.w.heap[b]?/\R r (V'.bare b):=by
 refine ⟨h.1,h.2.mono fun _ w' ⟨r,he,hx,hr⟩=>⟨r,he,⟨hx.size,fun x h1 h2=>hx.bu x h1 fun h=>h2 h.1,hx.os,hx.tape,hx.out⟩,hx.bu b hs (fun h=>h.2 rfl),hr⟩⟩
theorem View.fS {V:View}{b:Nat}{a:Addr}{v:Value}(h:(V.bare b).at a v)(hb:a.block≠b):V.at a v:=⟨fun hh=>h.1 ⟨hh,hb⟩,h.2⟩
def Ar (V:View)(b:Nat):Prop:=∃(cs:Array Value)(ty:TypeId)(m:Nat×Nat),V.w.heap[b]?=some (.cells cs ty m)/\∀v∈cs,∀k z,v≠.int k z
theorem Ar.ne {V:View}{b:Nat}(h:Ar V b){a:Addr}{k:IntKind}{z:Int}(ha:(V.bare b).at a (.int k z)):a.block≠b:=by
 obtain ⟨cs,ty,m,hb,hn⟩:=h
 intro e
 have h2:=ha.2
 unfold World.cell? at h2
 rw [e] at h2
 have hb':(V.bare b).w.heap[b]?=some (.cells cs ty m):=hb
 rw [hb'] at h2
 dsimp only at h2
 split at h2
 ·cases h2
 ·obtain ⟨hi,e2⟩:=Array.getElem?_eq_some_iff.1 h2
  exact hn _ (e2▸Array.getElem_mem hi) k z rfl
end Go.bz
namespace Go.Proofs.Tryz
open Go.bz Go.eM
theorem RD.fS {V:View}{b:Nat}(hn:Ar V b){p:OA}{n c:Nat}{ds:List Nat}(h:RD (V.bare b) p n c ds):RD V p n c ds:=by
 refine ⟨h.len,h.cap,fun i v hv=>?_,h.cN,h.Bn⟩
 obtain ⟨ad,e,ha⟩:=h.sl i v hv
 have:∃d:Int,v=.int .u32 d:=by
  unfold aH at hv
  rw [List.getElem?_map] at hv
  cases hd:ds[i]? with
  | none=>rw [hd] at hv;cases hv
  | some d=>rw [hd] at hv;cases hv;exact ⟨_,rfl⟩
 obtain ⟨d,rfl⟩:=this
 exact ⟨ad,e,View.fS ha (hn.ne ha)⟩
theorem RL.fS {V:View}{b:Nat}(hn:Ar V b){v:Value}{x y z:Int}(h:RL (V.bare b) v x y z):RL V v x y z:=by
 obtain ⟨_,_,_,_,_,_,_,_,_,e,h1,h2,h3⟩:=h
 exact ⟨_,_,_,_,_,_,_,_,_,e,RD.fS hn h1,RD.fS hn h2,RD.fS hn h3⟩
theorem xl (a:Addr)(i:Nat):(a.add i).block=a.block:=by
 unfold Addr.add;split<;>rfl
theorem AT.fS {V:View}{b:Nat}(hn:Ar V b){v:Value}{root:Int}{l:List Nd}(h:AT (V.bare b) v root l)(hk:∀x∈l,gT x.ln=true):AT V v root l:=by
 obtain ⟨q,n,c,rfl,hs⟩:=h
 refine ⟨q,n,c,rfl,hs.len,hs.cap,?_,hs.Bn⟩
 obtain ⟨vs,hsl,hr⟩:=hs.row
 cases l with
 | nil=>exact ⟨[],fun i v h=>by simp at h,fun i d h=>by simp at h⟩
 | cons d l=>
  have hne:∀ad,q=some ad->ad.block≠b:=by
   intro ad e
   obtain ⟨b1,p1,n1,c1,b2,p2,n2,c2,b3,p3,n3,c3,h1,-⟩:=hr 0 d rfl
   obtain ⟨Su,e',ha⟩:=hsl _ _ (h1 6 _ rfl)
   rw [e] at e';cases e'
   have:=hn.ne ha
   rwa [xl] at this
  refine ⟨vs,fun i v hv=>?_,fun i x hx=>?_⟩
  ·obtain ⟨ad,e,ha⟩:=hsl i v hv
   exact ⟨ad,e,View.fS ha (by rw [xl];exact hne ad e)⟩
  ·obtain ⟨b1,p1,n1,c1,b2,p2,n2,c2,b3,p3,n3,c3,h1,h2⟩:=hr i x hx
   exact ⟨b1,p1,n1,c1,b2,p2,n2,c2,b3,p3,n3,c3,h1,.inl (RL.fS hn (h2.ok (hk x (List.mem_of_getElem? hx))))⟩
theorem HR:∀{t:Tr} {k:Nat},t.iU Fp->∀x∈wr k t,gT x.ln=true
 | .leaf _,_,_,x,h=>by cases h
 | .node l a b,k,⟨h1,h2,h3⟩,x,h=>by
  simp only [wr] at h
  rcases List.mem_cons.1 h with rfl|h
  ·exact h1.1
  ·rcases List.mem_append.1 h with h|h
   ·exact HR h2 x h
   ·exact HR h3 x h
theorem nW {V:View}{rb:Nat}{i:Bool}{b1:Bool}{p1:OA}{n1 c1:Nat}{b2:Bool}{p2:OA}{n2 c2:Nat}{b3:Bool}{p3:OA}{n3 c3:Nat}{pl pr:OA}{ln:L3}{x y:Tr}
  (hw:V.w.heap[rb]?=some (.cells #[.bool false,.bool i,.bool b1,.slice p1 n1 c1,.bool b2,.slice p2 n2 c2,.bool b3,.slice p3 n3 c3,.pointer pl,.pointer pr] 64 (0,0)))
  (hl:RL V (.agg #[.bool b1,.slice p1 n1 c1,.bool b2,.slice p2 n2 c2,.bool b3,.slice p3 n3 c3]) ln.1 ln.2.1 ln.2.2)(hx:RW V pl x)(hy:RW V pr y)(ha:(Tr.node ln x y).iU Fp)(hs:(Tr.node ln x y).size<=1000000) :
  ab prog 14 #[.pointer (some ⟨rb,0,none⟩)] V fun r V'=>V'.w.heap[rb]?=some (.cells #[.bool false,.bool i,.bool b1,.slice p1 n1 c1,.bool b2,.slice p2 n2 c2,.bool b3,.slice p3 n3 c3,.pointer pl,.pointer pr] 64 (0,0))/\AT V' r (rt 0 (.node ln x y)) (wr 0 (.node ln x y)):=by
 have hsz:rb<V.w.heap.size:=(Array.getElem?_eq_some_iff.1 hw).1
 have l0:=V.H9 rb
 refine (ab.bare hsz (wA (V:=V.bare rb) (p:=some ⟨rb,0,none⟩) (t:=.node ln x y) ⟨rb,i,b1,p1,n1,c1,b2,p2,n2,c2,b3,p3,n3,c3,pl,pr,rfl,⟨fun h=>h.2 rfl,hw⟩,hl.le l0,hx.le l0,hy.le l0⟩ ha hs)).mono ?_
 rintro r V' l' ⟨h1,h2⟩
 rw [hw] at h1
 refine ⟨h1,AT.fS ⟨_,_,_,h1,?_⟩ h2 (HR ha)⟩
 intro v hv k z e
 subst e
 simp at hv
end Go.Proofs.Tryz
namespace Go.Proofs.Tryz
open Go.bz
set_option maxRecDepth 100000
end Go.Proofs.Tryz
