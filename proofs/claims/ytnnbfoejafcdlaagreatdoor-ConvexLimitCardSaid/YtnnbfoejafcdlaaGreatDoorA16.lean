import Derived.Test.YtnnbfoejafcdlaaGreatDoorA15
import Derived.Test.YtnnbfoejafcdlaaGreatDoorA8
import Derived.Test.YtnnbfoejafcdlaaGreatDoorA9
set_option linter.unusedVariables false
open Go.IntKind (i64 u64 u32)
namespace Go.Proofs.Tryz
open Go.bq Go.ew
def nF (V:View)(v:Value)(c:Rat×Rat):Prop:=RP V v c.1 c.2
theorem nF.le {V V':View}{v:Value}{c:Rat×Rat}(h:nF V v c)(l:V.Le V'):nF V' v c:=RP.le h l
theorem nF.shape {V:View}{v:Value}{c:Rat×Rat}(h:nF V v c):∃(b:Bool)(p:OA)(n c:Nat)(p':OA)(n' c':Nat)(d:Bool)(q:OA)(m e:Nat)(q':OA)(m' e':Nat),v=.agg #[.bool b,.slice p n c,.slice p' n' c',.bool d,.slice q m e,.slice q' m' e']:=by
 obtain ⟨p,n,c,p',n',c',q,m,e,q',m',e',h,-⟩:=h
 exact ⟨_,p,n,c,p',n',c',_,q,m,e,q',m',e',h⟩
theorem fe.shape {V:View}{v:Value}{c:Rat×Rat}(h:fe V v c):∃(b:Bool)(p:OA)(n c:Nat)(p':OA)(n' c':Nat)(d:Bool)(q:OA)(m e:Nat)(q':OA)(m' e':Nat),v=.agg #[.bool b,.slice p n c,.slice p' n' c',.bool d,.slice q m e,.slice q' m' e']:=by
 obtain ⟨_,_,_,_,_,_,_,_,_,_,_,_,_,_,h,-⟩:=h
 exact ⟨_,_,_,_,_,_,_,_,_,_,_,_,_,_,h⟩
theorem A6 {R:View->Value->Rat×Rat->Prop}(sh:∀{V v c},R V v c->∃(b:Bool)(p:OA)(n c:Nat)(p':OA)(n' c':Nat)(d:Bool)(q:OA)(m e:Nat)(q':OA)(m' e':Nat),v=.agg #[.bool b,.slice p n c,.slice p' n' c',.bool d,.slice q m e,.slice q' m' e'])
  {V:View}{p:OA}{n:Nat}{al:List (Rat×Rat)}(h:cR 6 R V p n al){i:Nat}(hi:i<al.length) :
  p.isSome=true/\∃(b1:Bool)(p1:OA)(n1 c1:Nat)(p2:OA)(n2 c2:Nat)(b2:Bool)(p3:OA)(n3 c3:Nat)(p4:OA)(n4 c4:Nat)(a:Addr),aj p (i*6)=some a/\V.at (a.add 0) (.bool b1)/\V.at (a.add 1) (.slice p1 n1 c1)/\V.at (a.add 2) (.slice p2 n2 c2)/\V.at (a.add 3) (.bool b2)/\V.at (a.add 4) (.slice p3 n3 c3)/\V.at (a.add 5) (.slice p4 n4 c4) /\
   R V (.agg #[.bool b1,.slice p1 n1 c1,.slice p2 n2 c2,.bool b2,.slice p3 n3 c3,.slice p4 n4 c4]) al[i]:=by
 obtain ⟨ad,h0,xs,h1,h2,h3⟩:=h.at_ i hi
 have h20:=h2
 obtain ⟨_,_,_,_,_,_,_,_,_,_,_,_,_,_,e⟩:=sh h2
 have e:=congrArg Array.toList (Value.agg.inj e)
 dsimp only at e
 subst e
 refine ⟨?_,_,_,_,_,_,_,_,_,_,_,_,_,_,_,ad,h0,h3 0 _ rfl,h3 1 _ rfl,h3 2 _ rfl,h3 3 _ rfl,h3 4 _ rfl,h3 5 _ rfl,h20⟩
 cases p with
 | none=>cases h0
 | some a=>rfl
theorem Fw {R:View->Value->Rat×Rat->Prop}(sh:∀{V v c},R V v c->∃(b:Bool)(p:OA)(n c:Nat)(p':OA)(n' c':Nat)(d:Bool)(q:OA)(m e:Nat)(q':OA)(m' e':Nat),v=.agg #[.bool b,.slice p n c,.slice p' n' c',.bool d,.slice q m e,.slice q' m' e'])
  {V:View}{vs:List Value}{al:List (Rat×Rat)}(h:Row 6 R V vs al){i:Nat}(hi:i<al.length) :
  ∃(b1:Bool)(p1:OA)(n1 c1:Nat)(p2:OA)(n2 c2:Nat)(b2:Bool)(p3:OA)(n3 c3:Nat)(p4:OA)(n4 c4:Nat),i*6+6<=vs.length/\(vs.drop (i*6)).take 6=[.bool b1,.slice p1 n1 c1,.slice p2 n2 c2,.bool b2,.slice p3 n3 c3,.slice p4 n4 c4] /\
   R V (.agg #[.bool b1,.slice p1 n1 c1,.slice p2 n2 c2,.bool b2,.slice p3 n3 c3,.slice p4 n4 c4]) al[i]:=by
 obtain ⟨xs,h1,h2,h3⟩:=h.at_ i hi
 have hl:=h.jA (by decide)
 have h20:=h2
 obtain ⟨_,_,_,_,_,_,_,_,_,_,_,_,_,_,e⟩:=sh h2
 have e:=congrArg Array.toList (Value.agg.inj e)
 dsimp only at e
 subst e
 refine ⟨_,_,_,_,_,_,_,_,_,_,_,_,_,_,by omega,?_,h20⟩
 apply List.ext_getElem?
 intro j
 rw [List.getElem?_take]
 split
 ·rename_i hj
  rw [List.getElem?_drop]
  exact h3 j _ (List.getElem?_eq_getElem (by show j<6;omega))▸(List.getElem?_eq_getElem (by show j<6;omega)).symm
 ·rename_i hj
  rw [List.getElem?_eq_none (by show 6<=j;omega)]
theorem wi {V:View}{p:OA}{n c:Nat}{A:List (Rat×Rat)}(h:cR 6 nF V p n A)(hn:A.length<=1000000){k:Nat}(hs:∀x∈A,Sz k x.1/\Sz k x.2)(hk:k<=1099511627776) :
  ab prog 29 #[.slice p n c] V fun r V'=>∃q m e,r=.slice q m e/\cR 6 fe V' q m A:=by
 obtain rfl:=h.len
 refine uj p _ c V _ ⟨fun z V'=>∃j:Nat,z.2.2.2=(j:Int)/\j<=A.length/\GR 6 fe V' z.1 z.2.1 z.2.2.1 (A.take j),fun z=>A.length-z.2.2.2.toNat,⟨(0,0,[],0),by and_intros<;>rfl,0,rfl,Nat.zero_le _,GR.nil⟩,?_⟩
 rintro ⟨z1,z2,vs,z4⟩ V1 l1 ⟨j,e4,FX,hg⟩
 dsimp only at e4 hg
 subst e4
 have zl:=hg.len
 rw [List.length_take] at zl
 refine ⟨rfl,fun hlt=>?_,fun hlt V4 l4 bk hb=>?_⟩
 ·have hlt:(j:Int)<A.length:=of_decide_eq_true hlt
  have hi:j<A.length:=by omega
  have w:i64.wrap ((j:Int)+1)=((j+1:Nat):Int):=by rw [ay (by omega)];rfl
  dsimp only
  rw [Int.toNat_natCast,w]
  obtain ⟨ps,b1,p1,n1,c1,p2,n2,c2,b2,p3,n3,c3,p4,n4,c4,a,ha,a0,a1,a2,a3,a4,a5,g⟩:=A6 nF.shape (h.le l1 fun _ _ g=>nF.le g l1) hi
  obtain ⟨s1,s2⟩:=hs _ (List.getElem_mem hi)
  refine ⟨ps,⟨by omega,by omega⟩,_,_,_,_,_,_,_,_,_,_,_,_,_,_,a,ha,a0,a1,a2,a3,a4,a5,fun V2 l2=>(yk (g.le l2) s1 s2 hk).mono ?_⟩
  rintro r V3 l3 gr
  have g0:fe V3 r A[j]:=gr
  obtain ⟨_,_,_,_,_,_,_,_,_,_,_,_,_,_,rfl⟩:=g0.shape
  refine ⟨_,_,_,_,_,_,_,_,_,_,_,_,_,_,rfl,by omega,hg.le,hg.cap,rfl,HF,fun sp c' h1 h2=>⟨(z1+1,c',_,((j+1:Nat):Int)),by dsimp only;omega,by and_intros<;>rfl,j+1,rfl,hi,?_⟩⟩
  dsimp only
  rw [List.take_add_one,List.getElem?_eq_getElem hi]
  exact (hg.mono (V':=V3) fun _ _ g=>fe.le g (l2.trans l3)).snoc rfl g0 (by decide) h1 h2
 ·have hlt:¬(j:Int)<A.length:=of_decide_eq_false hlt
  obtain rfl:j=A.length:=by omega
  rw [List.take_length] at hg
  obtain rfl:=hg.len
  exact ⟨_,_,_,rfl,cR.fV hb (hg.row.le fun _ _ g=>fe.le g l4) (by decide) hg.le⟩
theorem qH {V:View}{p:OA}{n c:Nat}{q:OA}{m d:Nat}{A:List (Rat×Rat)}(hA:cR 6 fe V p n A)(hB:cR 6 fe V q m A)(hn:A.length<=1000000){k:Nat}(hs:∀x∈A,Sz k x.1/\Sz k x.2)(hk:k<=1099511627776) :
  ab prog 28 #[.slice p n c,.slice q m d] V fun r V'=>r=.bool true:=by
 obtain rfl:=hA.len
 obtain rfl:=hB.len
 refine pZ p _ c q _ d V _ ⟨fun h=>by simp at h,fun _=>⟨fun z V'=>∃j:Nat,z=(j:Int)/\j<=A.length,fun z=>A.length-z.toNat,⟨0,by and_intros<;>rfl,0,rfl,Nat.zero_le _⟩,?_⟩⟩
 rintro z V2 l2 ⟨j,rfl,FX⟩
 refine ⟨rfl,fun hlt=>?_,fun hlt V6 l6=>rfl⟩
 have hlt:(j:Int)<A.length:=of_decide_eq_true hlt
 have hi:j<A.length:=by omega
 have w:i64.wrap ((j:Int)+1)=((j+1:Nat):Int):=by rw [ay (by omega)];rfl
 rw [Int.toNat_natCast,w]
 obtain ⟨ps,b1,p1,n1,c1,p2,n2,c2,b2,p3,n3,c3,p4,n4,c4,a,ha,a0,a1,a2,a3,a4,a5,g⟩:=A6 fe.shape (hA.le l2 fun _ _ g=>fe.le g l2) hi
 obtain ⟨ps',b1',KO,n1',c1',Ns,Nl,c2',b2',Nt,Nm,c3',RT,n4',Qz,a',ha',a0',a1',Qs,a3',a4',Qt,g'⟩:=A6 fe.shape (hB.le l2 fun _ _ g=>fe.le g l2) hi
 obtain ⟨s1,s2⟩:=hs _ (List.getElem_mem hi)
 refine ⟨ps,⟨by omega,by omega⟩,_,_,_,_,_,_,_,_,_,_,_,_,_,_,a,ha,a0,a1,a2,a3,a4,a5,ps',⟨by omega,by omega⟩,_,_,_,_,_,_,_,_,_,_,_,_,_,_,a',ha',a0',a1',Qs,a3',a4',Qt,fun V3 l3=>(tA (fe.le g l3) (fe.le g' l3) s1 s2 hk).mono ?_⟩
 rintro r V4 l4 rfl
 rw [decide_eq_true ⟨rfl,rfl⟩]
 exact ⟨_,rfl,(fun h=>nomatch h),fun _=>⟨((j+1:Nat):Int),by dsimp only;omega,by and_intros<;>rfl,j+1,rfl,hi⟩⟩
theorem cR.q {V:View}{p:OA}{n:Nat}{ls:List L3}(h:cR 6 gg V p n ls):cR 6 nE V p n ls:=⟨h.len,fun i hi=>by
 obtain ⟨ad,h0,xs,h1,h2,h3⟩:=h.at_ i hi
 exact ⟨ad,h0,xs,h1,.inl h2,h3⟩⟩
theorem tB {V:View}{p:OA}{n c:Nat}{ls:List L3}(h:cR 6 gg V p n ls)(hn:ls.length<=1000000)(hs:∀l∈ls,Bd l) :
  ab prog 19 #[.slice p n c] V fun r V'=>∃q m e,r=.agg #[.slice q m e]/\cR 6 gg V' q m ls:=by
 refine sS p n c V _ fun V1 l1=>(wh (h.le l1 fun _ _ g=>gg.le g l1) hn hs).mono ?_
 rintro r V2 l2 ⟨q,m,e,rfl,g⟩
 exact ⟨_,_,_,rfl,fun V3 l3=>⟨_,_,_,rfl,g.le l3 fun _ _ g=>gg.le g l3⟩⟩
theorem wj {V:View}{p:OA}{n c:Nat}{q:OA}{m d:Nat}{A:List L3}(hA:cR 6 gg V p n A)(hB:cR 6 gg V q m A)(hn:A.length<=1000000)(hs:∀l∈A,Bd l) :
  ab prog 46 #[.agg #[.slice p n c],.agg #[.slice q m d]] V fun r V'=>r=.bool true:=by
 refine uk p n c q m d V _ fun V1 l1=>(qG (hA.le l1 fun _ _ g=>gg.le g l1) (hB.le l1 fun _ _ g=>gg.le g l1) hn hs).mono ?_
 rintro r V2 l2 rfl
 exact ⟨_,rfl,fun V3 l3=>rfl⟩
def Aq:List L3:=[(0,1,0),(-1,0,1),(0,-1,1),(1,0,0)]
def nI:List (Rat×Rat):=[(((0:Int):Rat),((0:Int):Rat)),(((1:Int):Rat),((0:Int):Rat)),(((1:Int):Rat),((1:Int):Rat)),(((0:Int):Rat),((1:Int):Rat))]
def LV:List (Rat×Rat):=[(((1:Int):Rat),((0:Int):Rat)),(((1:Int):Rat),((1:Int):Rat)),(((0:Int):Rat),((1:Int):Rat)),(((0:Int):Rat),((0:Int):Rat))]
theorem IZ:∀i:Fin 4,¬((nI.getD i (0,0)).1=(nI.getD ((i+1)%4) (0,0)).1/\(nI.getD i (0,0)).2=(nI.getD ((i+1)%4) (0,0)).2)/\zF (nI.getD i (0,0)).1 (nI.getD i (0,0)).2 (nI.getD ((i+1)%4) (0,0)).1 (nI.getD ((i+1)%4) (0,0)).2=Aq.getD i (0,0,0):=by decide +kernel
theorem IY:(bG Aq [] []).map (fun c=>(c.map Prod.fst,xQ c))=some (Aq,true):=by decide +kernel
theorem I0:lq Aq=LV:=by decide +kernel
theorem G9:tw (lq Aq)*((2:Int):Rat)⁻¹=((1:Int):Rat):=by decide +kernel
theorem FA:sZ Aq=true:=by decide
theorem Bb {z:Int}(k:Nat)(hk:k≠0)(h:z.natAbs<=1):z.natAbs<2^k:=Nat.lt_of_le_of_lt h (Nat.one_lt_two_pow hk)
theorem GQ {l:L3}(k:Nat)(hk:k≠0)(h:l.1.natAbs<=1/\l.2.1.natAbs<=1/\l.2.2.natAbs<=1):l.1.natAbs<2^k/\l.2.1.natAbs<2^k/\l.2.2.natAbs<2^k:=⟨Bb k hk h.1,Bb k hk h.2.1,Bb k hk h.2.2⟩
theorem FB:∀l∈Aq,l.1.natAbs<=1/\l.2.1.natAbs<=1/\l.2.2.natAbs<=1:=by decide
theorem rW:∀l∈Aq,Bd l:=fun l hl=>GQ 1000 (by decide) (FB l hl)
theorem rX:∀x∈nI,Sz 2 x.1/\Sz 2 x.2:=by
 have h0:Sz 2 ((0:Int):Rat):=⟨by show (0:Int).natAbs<_;decide,by show (1:Nat)<_;decide⟩
 intro x hx
 simp only [nI,List.mem_cons,List.not_mem_nil,or_false] at hx
 rcases hx with rfl|rfl|rfl|rfl<;>exact ⟨by first|exact h0|exact fX,by first|exact h0|exact fX⟩
theorem FC:∀x∈LV,Sz 2 x.1/\Sz 2 x.2:=fun x hx=>rX x (by
 simp only [LV,List.mem_cons,List.not_mem_nil,or_false] at hx
 simp only [nI,List.mem_cons,List.not_mem_nil,or_false]
 rcases hx with rfl|rfl|rfl|rfl
 ·exact .inr (.inl rfl)
 ·exact .inr (.inr (.inl rfl))
 ·exact .inr (.inr (.inr rfl))
 ·exact .inl rfl)
theorem zz {R:View->Value->Rat×Rat->Prop}{V:View}{a b c d:List Value}{p q r s:Rat×Rat}(la:a.length=6)(lb:b.length=6)(lc:c.length=6)(ld:d.length=6)(ha:R V (.agg a.toArray) p)(hb:R V (.agg b.toArray) q)(hc:R V (.agg c.toArray) r)(hd:R V (.agg d.toArray) s) :
  Row 6 R V (a++(b++(c++d))) [p,q,r,s]:=by
 have h1:=lV (sp:=[]) (row_one lc hc) (row_one ld hd) (by decide)
 have h2:=lV (sp:=[]) (row_one lb hb) h1 (by decide)
 have h3:=lV (sp:=[]) (row_one la ha) h2 (by decide)
 have tk:∀{x:List Value},x.length=6->x.take (1*6)=x:=fun h=>List.take_of_length_le (by omega)
 simp only [List.length_singleton,List.length_cons,List.length_nil,Nat.zero_add,tk la,tk lb,tk lc,List.append_nil,List.cons_append,List.nil_append] at h3
 exact h3
theorem qF {V:View}:ab prog 38 #[] V fun r V'=>∃(bk n c:Nat)(vs:List Value),r=.slice (mA bk c) n c/\(vs≠[]->V'.w.heap[bk]?=some (.cells vs.toArray 27 (0,0)))/\(vs≠[]->V.w.heap.size<=bk)/\GR 6 gg (V'.kg (vs≠[]) bk) n c vs Aq:=by
 have xy:∀{W:View} (x y:Int),x.natAbs<=1->y.natAbs<=1->ab prog 12 #[.int .i64 x,.int .i64 y] W fun r V'=>RP V' r (x:Rat) (y:Rat):=fun x y h h'=>ju x y (by omega) (by omega) (by omega) (by omega)
 refine pW V _ fun V1 l1=>(xy 0 0 (by decide) (by decide)).mono ?_
 rintro r V2 l2 g1
 have g10:nF V2 r (((0:Int):Rat),((0:Int):Rat)):=g1
 obtain ⟨_,_,_,_,_,_,_,_,_,_,_,_,_,_,rfl⟩:=g10.shape
 refine ⟨_,_,_,_,_,_,_,_,_,_,_,_,_,_,rfl,fun V3 l3=>(xy 1 0 (by decide) (by decide)).mono ?_⟩
 rintro r V4 l4 g2
 have g20:nF V4 r (((1:Int):Rat),((0:Int):Rat)):=g2
 obtain ⟨_,_,_,_,_,_,_,_,_,_,_,_,_,_,rfl⟩:=g20.shape
 refine ⟨_,_,_,_,_,_,_,_,_,_,_,_,_,_,rfl,fun V5 l5=>(xy 1 1 (by decide) (by decide)).mono ?_⟩
 rintro r V6 l6 g3
 have mM:nF V6 r (((1:Int):Rat),((1:Int):Rat)):=g3
 obtain ⟨_,_,_,_,_,_,_,_,_,_,_,_,_,_,rfl⟩:=mM.shape
 refine ⟨_,_,_,_,_,_,_,_,_,_,_,_,_,_,rfl,fun V7 l7=>(xy 0 1 (by decide) (by decide)).mono ?_⟩
 rintro r V8 l8 g4
 have Gm:nF V8 r (((0:Int):Rat),((1:Int):Rat)):=g4
 obtain ⟨_,_,_,_,_,_,_,_,_,_,_,_,_,_,rfl⟩:=Gm.shape
 have Pu:=l7.trans l8
 have IC:=l5.trans (l6.trans Pu)
 have hrow:Row 6 nF V8 _ nI:=zz (a:=[_,_,_,_,_,_]) (b:=[_,_,_,_,_,_]) (c:=[_,_,_,_,_,_]) (d:=[_,_,_,_,_,_]) rfl rfl rfl rfl (g10.le (l3.trans (l4.trans IC))) (g20.le IC) (mM.le Pu) Gm
 refine ⟨_,_,_,_,_,_,_,_,_,_,_,_,_,_,rfl,fun z V'=>∃j:Nat,z.2.2.2.1=(j:Int)/\j<=4/\Row 6 nF V' z.2.2.2.2 nI/\GR 6 gg V' z.1 z.2.1 z.2.2.1 (Aq.take j),fun z=>4-z.2.2.2.1.toNat,⟨(0,0,[],0,_),by and_intros<;>rfl,0,rfl,by omega,hrow,GR.nil⟩,?_⟩
 rintro ⟨z1,z2,vs,z4,ps⟩ V9 l9 ⟨j,e4,FX,hps,hg⟩
 dsimp only at e4 hg hps
 subst e4
 have zl:=hg.len
 rw [List.length_take] at zl
 have hq4:Aq.length=4:=rfl
 have SU:nI.length=4:=rfl
 refine ⟨rfl,fun hlt=>?_,fun hlt pA bk cV hb hfr=>?_⟩
 ·have hlt:(j:Int)<4:=of_decide_eq_true hlt
  have hi:j<4:=by omega
  have w:i64.wrap ((j:Int)+1)=((j+1:Nat):Int):=by rw [ay (by omega)];rfl
  have hm:(((j+1:Nat):Int)).tmod (4:Int)=(((j+1)%4:Nat):Int):=by
   have:=Int.ofNat_tmod (j+1) 4
   exact this.symm
  dsimp only
  rw [w,hm]
  simp only [Int.toNat_natCast,Nat.zero_add]
  obtain ⟨b1,p1,n1,c1,p2,n2,c2,b2,p3,n3,c3,p4,n4,c4,lp,ep,gp⟩:=Fw nF.shape hps (i:=j) (by omega)
  obtain ⟨b1',KO,n1',c1',Ns,Nl,c2',b2',Nt,Nm,c3',RT,n4',Qz,Rx,LH,QQ⟩:=Fw nF.shape hps (i:=(j+1)%4) (by omega)
  obtain ⟨hne,hth⟩:=IZ ⟨j,hi⟩
  have ej:nI.getD j (0,0)=nI[j]:=ia (by omega)
  have QC:nI.getD ((j+1)%4) (0,0)=nI[(j+1)%4]:=ia (by omega)
  have el:Aq.getD j (0,0,0)=Aq[j]:=ia (by omega)
  have hne:¬((nI.getD j (0,0)).1=(nI.getD ((j+1)%4) (0,0)).1/\(nI.getD j (0,0)).2=(nI.getD ((j+1)%4) (0,0)).2):=hne
  have hth:zF (nI.getD j (0,0)).1 (nI.getD j (0,0)).2 (nI.getD ((j+1)%4) (0,0)).1 (nI.getD ((j+1)%4) (0,0)).2=Aq.getD j (0,0,0):=hth
  rw [ej,QC] at hne hth
  rw [el] at hth
  obtain ⟨s1,s2⟩:=rX _ (List.getElem_mem (show j<nI.length by omega))
  obtain ⟨s3,s4⟩:=rX _ (List.getElem_mem (show (j+1)%4<nI.length by omega))
  refine ⟨⟨by omega,by omega⟩,_,_,_,_,_,_,_,_,_,_,_,_,_,_,⟨lp,ep⟩,by decide,⟨by omega,by omega⟩,_,_,_,_,_,_,_,_,_,_,_,_,_,_,⟨Rx,LH⟩,fun kX l10=>(vA (nF.le gp l10) (nF.le QQ l10) s1 s2 s3 s4 (by omega) (by omega)).mono ?_⟩
  rintro r lJ bU ⟨-,hr⟩
  obtain ⟨l,rfl,gl⟩:=hr hne
  have JU:gg lJ l Aq[j]:=by rw [←hth];exact gl
  obtain ⟨_,_,_,_,_,_,_,_,_,_,_,_,rfl⟩:=dB JU
  refine ⟨_,_,_,_,_,_,_,_,_,_,_,_,_,rfl,by omega,hg.le,hg.cap,rfl,GP,fun sp c' h1 h2=>⟨(z1+1,c',_,((j+1:Nat):Int),ps),by dsimp only;omega,by and_intros<;>first|rfl|trivial,j+1,rfl,by omega,hps.le fun _ _ g=>nF.le g (l10.trans bU),?_⟩⟩
  dsimp only
  rw [List.take_add_one,List.getElem?_eq_getElem (by omega)]
  exact (hg.mono (V':=lJ) fun _ _ g=>gg.le g (l10.trans bU)).snoc rfl JU (by decide) h1 h2
 ·have hlt:¬(j:Int)<4:=of_decide_eq_false hlt
  obtain rfl:j=4:=by omega
  exact ⟨bk,z1,z2,vs,rfl,hb,fun h=>(hfr h).elim id False.elim,hg.mono fun _ _ g=>gg.le g cV⟩
set_option maxHeartbeats 1000000 in
theorem lx {V:View}{yi ye yu:Value}(E:Er V yi ye yu):ab prog 14 #[] V fun r V'=>r=.bool true:=by
 have xy:∀{W:View} (x y:Int),x.natAbs<=1->y.natAbs<=1->ab prog 12 #[.int .i64 x,.int .i64 y] W fun r V'=>RP V' r (x:Rat) (y:Rat):=fun x y h h'=>ju x y (by omega) (by omega) (by omega) (by omega)
 obtain ⟨cs,hcs,e1⟩:=Option.map_eq_some_iff.1 IY
 obtain ⟨e1,e2⟩:=Prod.mk.inj e1
 refine sK V _ fun V1 l1=>qF.mono ?_
 rintro r V2 l2 ⟨bm,n,c,vm,rfl,f1,f2,hg⟩
 refine ⟨bm,vm,f1,fun h=>.inl (f2 h),none,n,c,rfl,fun V3 l3 bk hbk=>?_⟩
 have dM:V1.Le V3:=(yQ l2 fun h=>.inl (f2 h)).trans l3
 have hL:cR 6 gg V3 (mA bk c) n Aq:=by
  rw [hg.len]
  exact cR.fV hbk (hg.row.le fun _ _ g=>gg.le g fun b o h=>l3 b o h) (by decide) (by have:=hg.le;have:=hg.len;omega)
 refine (tB hL (by decide) rW).mono ?_
 rintro r V4 l4 ⟨q,m,e,rfl,hW⟩
 have L4:=l1.trans (dM.trans l4)
 refine ⟨_,_,_,rfl,fun J V5 l5=>(tj (cR.q (hW.le l5 fun _ _ g=>gg.le g l5)) rW (E.le (L4.trans l5))).mono ?_⟩
 rintro r V6 l6 hA
 obtain ⟨-,hA⟩:=hA.some FA hcs
 obtain ⟨wa,rfl,gA,sA⟩:=hA e2
 rw [e1,G9] at gA
 have QJ:=gA
 obtain ⟨_,_,_,_,_,_,_,rfl⟩:=gA.shape
 have l46:=l5.trans l6
 refine ⟨_,_,_,_,_,_,_,_,rfl,fun V7 l7=>(qB (cR.q (hW.le (l46.trans l7) fun _ _ g=>gg.le g (l46.trans l7))) rW (E.le (L4.trans (l46.trans l7)))).mono ?_⟩
 rintro r V8 l8 hC0
 obtain ⟨q1,m1,d1,rfl,hC,-⟩:=hC0.some FA hcs
 clear hC0
 rw [e1] at hC
 have IC:=l46.trans (l7.trans l8)
 refine ⟨_,_,_,_,rfl,fun V9 l9=>(mE (cR.q (hW.le (IC.trans l9) fun _ _ g=>gg.le g (IC.trans l9))) rW (E.le (L4.trans (IC.trans l9)))).mono ?_⟩
 rintro r kX l10 JX
 obtain ⟨q2,m2,d2,rfl,hV,-⟩:=JX.some FA hcs
 clear JX
 rw [e1,I0] at hV
 have Cg:=l9.trans l10
 have Kn:=IC.trans Cg
 refine ⟨_,_,_,_,rfl,kL.1,fun _=>⟨kL.1,fun _=>⟨kL.1,fun _ lJ bU=>?_,fun h=>by cases h⟩,fun h=>by cases h⟩,fun h=>by cases h⟩
 refine (wj (hW.le (Kn.trans bU) fun _ _ g=>gg.le g (Kn.trans bU)) (hC.le (Cg.trans bU) fun _ _ g=>gg.le g (Cg.trans bU)) (by decide) rW).mono ?_
 rintro r pA cV rfl
 have Ko:=l7.trans (l8.trans (Cg.trans (bU.trans cV)))
 refine ⟨_,rfl,fun _ vN dM=>(H4 (QJ.le (Ko.trans dM)) (k:=2) fX (by omega)).mono ?_,fun h=>by cases h⟩
 rintro r oH eY gq
 have QS:=gq
 obtain ⟨_,_,_,_,_,_,rfl⟩:=gq.shape
 refine ⟨_,_,_,_,_,_,_,rfl,fun oI fm=>(mF 1 (by omega) (by omega)).mono ?_⟩
 rintro r mu dV g1
 have g10:=g1
 obtain ⟨_,_,_,_,_,_,rfl⟩:=g1.shape
 refine ⟨_,_,_,_,_,_,_,rfl,fun oJ dE=>(Gb (QS.le (fm.trans (dV.trans dE))) (g10.le dE) fX fX (by omega)).mono ?_⟩
 rintro r sY eP rfl
 have EH:=dM.trans (eY.trans (fm.trans (dV.trans (dE.trans eP))))
 refine ⟨_,rfl,fun _ vO eX=>(xy 1 0 (by decide) (by decide)).mono ?_,fun h=>by
  rw [show fl ((1:Int):Rat) ((1:Int):Rat)=0 from mG.1 rfl] at h;cases h⟩
 rintro r Am iy h1
 have h10:nF Am r (((1:Int):Rat),((0:Int):Rat)):=h1
 obtain ⟨_,_,_,_,_,_,_,_,_,_,_,_,_,_,rfl⟩:=h10.shape
 refine ⟨_,_,_,_,_,_,_,_,_,_,_,_,_,_,rfl,fun xF gK=>(xy 1 1 (by decide) (by decide)).mono ?_⟩
 rintro r xG kl h2
 have h20:nF xG r (((1:Int):Rat),((1:Int):Rat)):=h2
 obtain ⟨_,_,_,_,_,_,_,_,_,_,_,_,_,_,rfl⟩:=h20.shape
 refine ⟨_,_,_,_,_,_,_,_,_,_,_,_,_,_,rfl,fun Av jY=>(xy 0 1 (by decide) (by decide)).mono ?_⟩
 rintro r Hl Cf h3
 have O8:nF Hl r (((0:Int):Rat),((1:Int):Rat)):=h3
 obtain ⟨_,_,_,_,_,_,_,_,_,_,_,_,_,_,rfl⟩:=O8.shape
 refine ⟨_,_,_,_,_,_,_,_,_,_,_,_,_,_,rfl,fun Hm tI=>(xy 0 0 (by decide) (by decide)).mono ?_⟩
 rintro r Jb Ap h4
 have LL:nF Jb r (((0:Int):Rat),((0:Int):Rat)):=h4
 obtain ⟨_,_,_,_,_,_,_,_,_,_,_,_,_,_,rfl⟩:=LL.shape
 have EK:=tI.trans Ap
 have wG:=jY.trans (Cf.trans EK)
 refine ⟨_,_,_,_,_,_,_,_,_,_,_,_,_,_,rfl,fun Js oW bk hb=>?_⟩
 have hrow:Row 6 nF Js _ LV:=zz (a:=[_,_,_,_,_,_]) (b:=[_,_,_,_,_,_]) (c:=[_,_,_,_,_,_]) (d:=[_,_,_,_,_,_]) rfl rfl rfl rfl (h10.le (gK.trans (kl.trans (wG.trans oW)))) (h20.le (wG.trans oW)) (O8.le (EK.trans oW)) (LL.le oW)
 refine (wi (cR.E4 hb hrow) (by decide) FC (by omega)).mono ?_
 rintro r Jt FY ⟨q3,m3,d3,rfl,hP⟩
 refine ⟨_,_,_,rfl,fun _ Mi EL=>(qH (hV.le (bU.trans (cV.trans (EH.trans (eX.trans (iy.trans (gK.trans (kl.trans (wG.trans (oW.trans (FY.trans EL)))))))))) fun _ _ g=>fe.le g (bU.trans (cV.trans (EH.trans (eX.trans (iy.trans (gK.trans (kl.trans (wG.trans (oW.trans (FY.trans EL)))))))))) ) (hP.le EL fun _ _ g=>fe.le g EL) (by decide) FC (by omega)).mono ?_⟩
 rintro r Ju Df rfl
 exact ⟨_,rfl,fun PS LP=>rfl⟩
theorem Cn (n:Nat):sZ (List.replicate n ((0,1,0):L3))=decide (n<=1024):=by
 unfold sZ
 rw [List.length_replicate,List.all_eq_true.2 fun l hl=>by rw [(List.mem_replicate.1 hl).2];decide,Bool.and_true]
theorem Bn (n:Nat):∀l∈List.replicate n ((0,1,0):L3),Bd l:=fun l hl=>by rw [(List.mem_replicate.1 hl).2];exact rW _ (List.mem_cons_self ..)
theorem kY {V:View}{yi ye yu:Value}(E:Er V yi ye yu)(more:Int)(h0:0<=more)(h1:more<256):ab prog 3 #[.int .u8 more] V fun r V'=>r=.bool true:=by
 obtain ⟨N,hN,hN1⟩:∃N:Nat,i64.wrap (924+i64.wrap more)=(N:Int)/\N<=2000:=by
  rw [ay (x:=more) (by omega),ay (by omega)]
  exact ⟨(924+more).toNat,by omega,by omega⟩
 refine kF more V _ fun V1 l1=>(ju 0 0 (by omega) (by omega) (by omega) (by omega)).mono ?_
 rintro r V2 l2 g1
 have g10:nF V2 r (((0:Int):Rat),((0:Int):Rat)):=g1
 obtain ⟨_,_,_,_,_,_,_,_,_,_,_,_,_,_,rfl⟩:=g10.shape
 refine ⟨_,_,_,_,_,_,_,_,_,_,_,_,_,_,rfl,fun V3 l3=>(ju 1 0 (by omega) (by omega) (by omega) (by omega)).mono ?_⟩
 rintro r V4 l4 g2
 have g20:nF V4 r (((1:Int):Rat),((0:Int):Rat)):=g2
 obtain ⟨_,_,_,_,_,_,_,_,_,_,_,_,_,_,rfl⟩:=g20.shape
 obtain ⟨s1,s2⟩:=rX _ (List.mem_cons_self ..)
 obtain ⟨s3,s4⟩:=rX _ (List.mem_cons_of_mem _ (List.mem_cons_self ..))
 refine ⟨_,_,_,_,_,_,_,_,_,_,_,_,_,_,rfl,fun V5 l5=>(vA (nF.le g10 (l3.trans (l4.trans l5))) (nF.le g20 l5) s1 s2 s3 s4 (by omega) (by omega)).mono ?_⟩
 rintro r V6 l6 ⟨-,hr⟩
 obtain ⟨l,rfl,gl⟩:=hr (by decide +kernel)
 have JU:gg V6 l (0,1,0):=by
  have e:zF ((0:Int):Rat) ((0:Int):Rat) ((1:Int):Rat) ((0:Int):Rat)=(0,1,0):=by decide +kernel
  rw [e] at gl
  exact gl
 obtain ⟨_,_,_,_,_,_,_,_,_,_,_,_,rfl⟩:=dB JU
 have L6:=l1.trans (l2.trans (l3.trans (l4.trans (l5.trans l6))))
 rw [hN]
 refine ⟨_,_,_,_,_,_,_,_,_,_,_,_,_,rfl,fun z V'=>∃i:Nat,z.1=(i:Int)/\i<=N/\GR 6 gg V' z.2.1 z.2.2.1 z.2.2.2 (List.replicate i (0,1,0)),fun z=>N-z.1.toNat,⟨(0,0,0,[]),by and_intros<;>rfl,0,rfl,Nat.zero_le _,GR.nil⟩,?_⟩
 rintro ⟨z1,n,c,vs⟩ V7 l7 ⟨i,e1,hi,hg⟩
 dsimp only at e1 hg
 subst e1
 have zl:=hg.len
 rw [List.length_replicate] at zl
 have L7:=L6.trans l7
 refine ⟨rfl,fun hlt V8 l8=>?_,fun hlt=>?_⟩
 ·have hlt:(i:Int)<(N:Int):=of_decide_eq_true hlt
  have w:i64.wrap ((i:Int)+1)=((i+1:Nat):Int):=by rw [ay (by omega)];rfl
  obtain ⟨d1,d2,d3⟩:=(rW _ (List.mem_cons_self ..)).af
  refine (oP (a:=0) (b:=1) (c:=0) (JU.le (l7.trans l8)) (by exact Nat.le_trans d1 (by omega)) (by exact Nat.le_trans d2 (by omega)) (by exact Nat.le_trans d3 (by omega))).mono ?_
  rintro r V9 l9 gm
  have O3:gg V9 r (0,1,0):=gm
  obtain ⟨_,_,_,_,_,_,_,_,_,_,_,_,rfl⟩:=dB O3
  dsimp only
  rw [w]
  refine ⟨_,_,_,_,_,_,_,_,_,_,_,_,rfl,by omega,hg.le,hg.cap,rfl,GP,fun sp c' h1 h2=>⟨(((i+1:Nat):Int),n+1,c',_),by dsimp only;omega,by and_intros<;>rfl,i+1,rfl,by omega,?_⟩⟩
  dsimp only
  rw [List.replicate_succ']
  exact (hg.mono (V':=V9) fun _ _ g=>gg.le g (l8.trans l9)).snoc rfl O3 (by decide) h1 h2
 ·have hlt:¬(i:Int)<(N:Int):=of_decide_eq_false hlt
  obtain rfl:i=N:=by omega
  have hle:=hg.le
  have hL:∀{W:View} {bk:Nat},V7.Le W->(vs≠[]->W.bo bk (.cells vs.toArray 42 (0,0)))->cR 6 nE W (mA bk c) n (List.replicate i (0,1,0)):=fun {W bk} l hb=>by
   have:=cR.fV (c:=c) hb (hg.row.le fun _ _ g=>gg.le g l) (by decide) (by rw [List.length_replicate];omega)
   rw [List.length_replicate] at this
   rw [zl]
   exact cR.q this
  refine ⟨fun hc kX l10=>(lx (E.le (L7.trans l10))).mono ?_,fun hc mu dV bk hb=>?_⟩
  ·have hc:(n:Int)<=1024:=of_decide_eq_true hc
   rintro r lJ bU rfl
   refine ⟨_,rfl,fun _ pA cV bk hb=>(j9 (hL (l10.trans (bU.trans cV)) hb) (Bn i)).mono ?_,fun h=>by cases h⟩
   rintro r vN dM rfl
   refine ⟨_,rfl,fun _ oH eY=>?_⟩
   rw [Cn,decide_eq_true (by omega)]
  ·have hc:¬(n:Int)<=1024:=of_decide_eq_false hc
   have ho:sZ (List.replicate i ((0,1,0):L3))=false:=by rw [Cn,decide_eq_false (by omega)]
   refine (qC (hL dV hb) (Bn i) (E.le (L7.trans dV))).mono ?_
   rintro r oJ dE hr
   obtain rfl:=hr.bad ho
   have HR:=L7.trans (dV.trans dE)
   refine ⟨_,_,rfl,fun J sY eP=>(lx (E.le (HR.trans eP))).mono ?_⟩
   rintro r vO eX rfl
   have EJ:=eP.trans eX
   refine ⟨_,rfl,fun _ Am iy=>(j9 ((hL dV hb).le (dE.trans (EJ.trans iy)) fun _ _ g=>nE.le g (dE.trans (EJ.trans iy))) (Bn i)).mono ?_,fun h=>by cases h⟩
   rintro r xF gK rfl
   rw [ho]
   refine ⟨_,rfl,fun _=>⟨yi,⟨_,rfl,(E.le (HR.trans (EJ.trans (iy.trans gK)))).inv⟩,fun xG kl=>(nP E.si).mono ?_⟩,fun h=>by cases h⟩
   rintro r Av jY rfl
   exact ⟨_,rfl,fun _ Hl Cf=>rfl,fun h=>by cases h⟩
end Go.Proofs.Tryz
