import Derived.Test.YtnnbfoejafcdlaaGreatDoorB15
import Derived.Test.YtnnbfoejafcdlaaGreatDoorB8
import Derived.Test.YtnnbfoejafcdlaaGreatDoorB13
import Derived.Test.YtnnbfoejafcdlaaGreatDoorB12
import Derived.Test.YtnnbfoejafcdlaaGreatDoorB5
import Derived.Test.YtnnbfoejafcdlaaGreatDoorB14
import Derived.Test.YtnnbfoejafcdlaaGreatDoorB7
import Derived.Test.YtnnbfoejafcdlaaGreatDoorB9
set_option linter.unusedVariables false
open Go.IntKind (i64 u64 u32)
namespace Go.Proofs.Tryz
open Go.bu Go.eQ
def qP (V:View)(v:Value)(c:Rat×Rat):Prop:=RP V v c.1 c.2
theorem qP.le {V V':View}{v:Value}{c:Rat×Rat}(h:qP V v c)(l:V.Le V'):qP V' v c:=RP.le h l
theorem qP.shape {V:View}{v:Value}{c:Rat×Rat}(h:qP V v c):∃(b:Bool)(p:OA)(n c:Nat)(p':OA)(n' c':Nat)(d:Bool)(q:OA)(m e:Nat)(q':OA)(m' e':Nat),v=.agg #[.bool b,.slice p n c,.slice p' n' c',.bool d,.slice q m e,.slice q' m' e']:=by
 obtain ⟨p,n,c,p',n',c',q,m,e,q',m',e',h,-⟩:=h
 exact ⟨_,p,n,c,p',n',c',_,q,m,e,q',m',e',h⟩
theorem fr.shape {V:View}{v:Value}{c:Rat×Rat}(h:fr V v c):∃(b:Bool)(p:OA)(n c:Nat)(p':OA)(n' c':Nat)(d:Bool)(q:OA)(m e:Nat)(q':OA)(m' e':Nat),v=.agg #[.bool b,.slice p n c,.slice p' n' c',.bool d,.slice q m e,.slice q' m' e']:=by
 obtain ⟨_,_,_,_,_,_,_,_,_,_,_,_,_,_,h,-⟩:=h
 exact ⟨_,_,_,_,_,_,_,_,_,_,_,_,_,_,h⟩
theorem B4 {R:View->Value->Rat×Rat->Prop}(sh:∀{V v c},R V v c->∃(b:Bool)(p:OA)(n c:Nat)(p':OA)(n' c':Nat)(d:Bool)(q:OA)(m e:Nat)(q':OA)(m' e':Nat),v=.agg #[.bool b,.slice p n c,.slice p' n' c',.bool d,.slice q m e,.slice q' m' e'])
  {V:View}{p:OA}{n:Nat}{al:List (Rat×Rat)}(h:cK 6 R V p n al){i:Nat}(hi:i<al.length) :
  p.isSome=true/\∃(b1:Bool)(p1:OA)(n1 c1:Nat)(p2:OA)(n2 c2:Nat)(b2:Bool)(p3:OA)(n3 c3:Nat)(p4:OA)(n4 c4:Nat)(a:Addr),ah p (i*6)=some a/\V.at (a.add 0) (.bool b1)/\V.at (a.add 1) (.slice p1 n1 c1)/\V.at (a.add 2) (.slice p2 n2 c2)/\V.at (a.add 3) (.bool b2)/\V.at (a.add 4) (.slice p3 n3 c3)/\V.at (a.add 5) (.slice p4 n4 c4) /\
   R V (.agg #[.bool b1,.slice p1 n1 c1,.slice p2 n2 c2,.bool b2,.slice p3 n3 c3,.slice p4 n4 c4]) al[i]:=by
 obtain ⟨ad,h0,xs,h1,h2,h3⟩:=h.at_ i hi
 have h20:=h2
 obtain ⟨_,_,_,_,_,_,_,_,_,_,_,_,_,_,e⟩:=sh h2
 have e:=congrArg Array.toList (Value.agg.inj e)
 dsimp only at e
 subst e
 refine ⟨?_,_,_,_,_,_,_,_,_,_,_,_,_,_,_,ad,h0,h3 0 _ rfl,h3 1 _ rfl,h3 2 _ rfl,h3 3 _ rfl,h3 4 _ rfl,h3 5 _ rfl,h20⟩
 cases p with
 | none=>cases h0
 | some a=>rfl
theorem GU {R:View->Value->Rat×Rat->Prop}(sh:∀{V v c},R V v c->∃(b:Bool)(p:OA)(n c:Nat)(p':OA)(n' c':Nat)(d:Bool)(q:OA)(m e:Nat)(q':OA)(m' e':Nat),v=.agg #[.bool b,.slice p n c,.slice p' n' c',.bool d,.slice q m e,.slice q' m' e'])
  {V:View}{vs:List Value}{al:List (Rat×Rat)}(h:Row 6 R V vs al){i:Nat}(hi:i<al.length) :
  ∃(b1:Bool)(p1:OA)(n1 c1:Nat)(p2:OA)(n2 c2:Nat)(b2:Bool)(p3:OA)(n3 c3:Nat)(p4:OA)(n4 c4:Nat),i*6+6<=vs.length/\(vs.drop (i*6)).take 6=[.bool b1,.slice p1 n1 c1,.slice p2 n2 c2,.bool b2,.slice p3 n3 c3,.slice p4 n4 c4] /\
   R V (.agg #[.bool b1,.slice p1 n1 c1,.slice p2 n2 c2,.bool b2,.slice p3 n3 c3,.slice p4 n4 c4]) al[i]:=by
 obtain ⟨xs,h1,h2,h3⟩:=h.at_ i hi
 have hl:=h.iN (by decide)
 have h20:=h2
 obtain ⟨_,_,_,_,_,_,_,_,_,_,_,_,_,_,e⟩:=sh h2
 have e:=congrArg Array.toList (Value.agg.inj e)
 dsimp only at e
 subst e
 refine ⟨_,_,_,_,_,_,_,_,_,_,_,_,_,_,by omega,?_,h20⟩
 apply List.ext_getElem?
 intro j
 rw [List.getElem?_take]
 split
 ·rename_i hj
  rw [List.getElem?_drop]
  exact h3 j _ (List.getElem?_eq_getElem (by show j<6;omega))▸(List.getElem?_eq_getElem (by show j<6;omega)).symm
 ·rename_i hj
  rw [List.getElem?_eq_none (by show 6<=j;omega)]
theorem xr {V:View}{p:OA}{n c:Nat}{A:List (Rat×Rat)}(h:cK 6 qP V p n A)(hn:A.length<=1000000){k:Nat}(hs:∀x∈A,Sz k x.1/\Sz k x.2)(hk:k<=1099511627776) :
  ab prog 29 #[.slice p n c] V fun r V'=>∃q m e,r=.slice q m e/\cK 6 fr V' q m A:=by
 obtain rfl:=h.len
 refine vr p _ c V _ ⟨fun z V'=>∃j:Nat,z.2.2.2=(j:Int)/\j<=A.length/\GR 6 fr V' z.1 z.2.1 z.2.2.1 (A.take j),fun z=>A.length-z.2.2.2.toNat,⟨(0,0,[],0),by and_intros<;>rfl,0,rfl,Nat.zero_le _,GR.nil⟩,?_⟩
 rintro ⟨z1,z2,vs,z4⟩ V1 l1 ⟨j,e4,EY,hg⟩
 dsimp only at e4 hg
 subst e4
 have zl:=hg.len
 rw [List.length_take] at zl
 refine ⟨rfl,fun hlt=>?_,fun hlt V4 l4 bk hb=>?_⟩
 ·have hlt:(j:Int)<A.length:=of_decide_eq_true hlt
  have hi:j<A.length:=by omega
  have w:i64.wrap ((j:Int)+1)=((j+1:Nat):Int):=by rw [aw (by omega)];rfl
  dsimp only
  rw [Int.toNat_natCast,w]
  obtain ⟨ps,b1,p1,n1,c1,p2,n2,c2,b2,p3,n3,c3,p4,n4,c4,a,ha,a0,a1,a2,a3,a4,a5,g⟩:=B4 qP.shape (h.le l1 fun _ _ g=>qP.le g l1) hi
  obtain ⟨s1,s2⟩:=hs _ (List.getElem_mem hi)
  refine ⟨ps,⟨by omega,by omega⟩,_,_,_,_,_,_,_,_,_,_,_,_,_,_,a,ha,a0,a1,a2,a3,a4,a5,fun V2 l2=>(zw (g.le l2) s1 s2 hk).mono ?_⟩
  rintro r V3 l3 gr
  have g0:fr V3 r A[j]:=gr
  obtain ⟨_,_,_,_,_,_,_,_,_,_,_,_,_,_,rfl⟩:=g0.shape
  refine ⟨_,_,_,_,_,_,_,_,_,_,_,_,_,_,rfl,by omega,hg.le,hg.cap,rfl,I6,fun sp c' h1 h2=>⟨(z1+1,c',_,((j+1:Nat):Int)),by dsimp only;omega,by and_intros<;>rfl,j+1,rfl,hi,?_⟩⟩
  dsimp only
  rw [List.take_add_one,List.getElem?_eq_getElem hi]
  exact (hg.mono (V':=V3) fun _ _ g=>fr.le g (l2.trans l3)).snoc rfl g0 (by decide) h1 h2
 ·have hlt:¬(j:Int)<A.length:=of_decide_eq_false hlt
  obtain rfl:j=A.length:=by omega
  rw [List.take_length] at hg
  obtain rfl:=hg.len
  exact ⟨_,_,_,rfl,cK.fL hb (hg.row.le fun _ _ g=>fr.le g l4) (by decide) hg.le⟩
theorem rN {V:View}{p:OA}{n c:Nat}{q:OA}{m d:Nat}{A:List (Rat×Rat)}(hA:cK 6 fr V p n A)(hB:cK 6 fr V q m A)(hn:A.length<=1000000){k:Nat}(hs:∀x∈A,Sz k x.1/\Sz k x.2)(hk:k<=1099511627776) :
  ab prog 28 #[.slice p n c,.slice q m d] V fun r V'=>r=.bool true:=by
 obtain rfl:=hA.len
 obtain rfl:=hB.len
 refine qI p _ c q _ d V _ ⟨fun h=>by simp at h,fun _=>⟨fun z V'=>∃j:Nat,z=(j:Int)/\j<=A.length,fun z=>A.length-z.toNat,⟨0,by and_intros<;>rfl,0,rfl,Nat.zero_le _⟩,?_⟩⟩
 rintro z V2 l2 ⟨j,rfl,EY⟩
 refine ⟨rfl,fun hlt=>?_,fun hlt V6 l6=>rfl⟩
 have hlt:(j:Int)<A.length:=of_decide_eq_true hlt
 have hi:j<A.length:=by omega
 have w:i64.wrap ((j:Int)+1)=((j+1:Nat):Int):=by rw [aw (by omega)];rfl
 rw [Int.toNat_natCast,w]
 obtain ⟨ps,b1,p1,n1,c1,p2,n2,c2,b2,p3,n3,c3,p4,n4,c4,a,ha,a0,a1,a2,a3,a4,a5,g⟩:=B4 fr.shape (hA.le l2 fun _ _ g=>fr.le g l2) hi
 obtain ⟨ps',b1',Mw,n1',c1',Pu,Pn,c2',b2',Pv,Po,c3',T7,n4',SP,a',ha',a0',a1',SD,a3',a4',SE,g'⟩:=B4 fr.shape (hB.le l2 fun _ _ g=>fr.le g l2) hi
 obtain ⟨s1,s2⟩:=hs _ (List.getElem_mem hi)
 refine ⟨ps,⟨by omega,by omega⟩,_,_,_,_,_,_,_,_,_,_,_,_,_,_,a,ha,a0,a1,a2,a3,a4,a5,ps',⟨by omega,by omega⟩,_,_,_,_,_,_,_,_,_,_,_,_,_,_,a',ha',a0',a1',SD,a3',a4',SE,fun V3 l3=>(ux (fr.le g l3) (fr.le g' l3) s1 s2 hk).mono ?_⟩
 rintro r V4 l4 rfl
 rw [decide_eq_true ⟨rfl,rfl⟩]
 exact ⟨_,rfl,(fun h=>nomatch h),fun _=>⟨((j+1:Nat):Int),by dsimp only;omega,by and_intros<;>rfl,j+1,rfl,hi⟩⟩
theorem cK.q {V:View}{p:OA}{n:Nat}{ls:List L3}(h:cK 6 di V p n ls):cK 6 pC V p n ls:=⟨h.len,fun i hi=>by
 obtain ⟨ad,h0,xs,h1,h2,h3⟩:=h.at_ i hi
 exact ⟨ad,h0,xs,h1,.inl h2,h3⟩⟩
theorem lW {V:View}{p:OA}{n c:Nat}{ls:List L3}(h:cK 6 di V p n ls)(hn:ls.length<=1000000)(hs:∀l∈ls,Bd l) :
  ab prog 19 #[.slice p n c] V fun r V'=>∃q m e,r=.agg #[.slice q m e]/\cK 6 di V' q m ls:=by
 refine ue p n c V _ fun V1 l1=>(xq (h.le l1 fun _ _ g=>di.le g l1) hn hs).mono ?_
 rintro r V2 l2 ⟨q,m,e,rfl,g⟩
 exact ⟨_,_,_,rfl,fun V3 l3=>⟨_,_,_,rfl,g.le l3 fun _ _ g=>di.le g l3⟩⟩
theorem xu {V:View}{p:OA}{n c:Nat}{q:OA}{m d:Nat}{A:List L3}(hA:cK 6 di V p n A)(hB:cK 6 di V q m A)(hn:A.length<=1000000)(hs:∀l∈A,Bd l) :
  ab prog 46 #[.agg #[.slice p n c],.agg #[.slice q m d]] V fun r V'=>r=.bool true:=by
 refine vt p n c q m d V _ fun V1 l1=>(rM (hA.le l1 fun _ _ g=>di.le g l1) (hB.le l1 fun _ _ g=>di.le g l1) hn hs).mono ?_
 rintro r V2 l2 rfl
 exact ⟨_,rfl,fun V3 l3=>rfl⟩
def Bn:List L3:=[(0,1,0),(-1,0,1),(0,-1,1),(1,0,0)]
def ou:List (Rat×Rat):=[(((0:Int):Rat),((0:Int):Rat)),(((1:Int):Rat),((0:Int):Rat)),(((1:Int):Rat),((1:Int):Rat)),(((0:Int):Rat),((1:Int):Rat))]
def NJ:List (Rat×Rat):=[(((1:Int):Rat),((0:Int):Rat)),(((1:Int):Rat),((1:Int):Rat)),(((0:Int):Rat),((1:Int):Rat)),(((0:Int):Rat),((0:Int):Rat))]
theorem Ko:∀i:Fin 4,¬((ou.getD i (0,0)).1=(ou.getD ((i+1)%4) (0,0)).1/\(ou.getD i (0,0)).2=(ou.getD ((i+1)%4) (0,0)).2)/\Cv (ou.getD i (0,0)).1 (ou.getD i (0,0)).2 (ou.getD ((i+1)%4) (0,0)).1 (ou.getD ((i+1)%4) (0,0)).2=Bn.getD i (0,0,0):=by decide +kernel
theorem Kn:(br Bn [] []).map (fun c=>(c.map Prod.fst,yY c))=some (Bn,true):=by decide +kernel
theorem Kp:lP Bn=NJ:=by decide +kernel
theorem Iu:tw (lP Bn)*((2:Int):Rat)⁻¹=((1:Int):Rat):=by decide +kernel
theorem G0:wE Bn=true:=by decide
theorem Cc {z:Int}(k:Nat)(hk:k≠0)(h:z.natAbs<=1):z.natAbs<2^k:=Nat.lt_of_le_of_lt h (Nat.one_lt_two_pow hk)
theorem H7 {l:L3}(k:Nat)(hk:k≠0)(h:l.1.natAbs<=1/\l.2.1.natAbs<=1/\l.2.2.natAbs<=1):l.1.natAbs<2^k/\l.2.1.natAbs<2^k/\l.2.2.natAbs<2^k:=⟨Cc k hk h.1,Cc k hk h.2.1,Cc k hk h.2.2⟩
theorem G1:∀l∈Bn,l.1.natAbs<=1/\l.2.1.natAbs<=1/\l.2.2.natAbs<=1:=by decide
theorem AH:∀l∈Bn,Bd l:=fun l hl=>H7 1000 (by decide) (G1 l hl)
theorem Ct:∀x∈ou,Sz 2 x.1/\Sz 2 x.2:=by
 have h0:Sz 2 ((0:Int):Rat):=⟨by show (0:Int).natAbs<_;decide,by show (1:Nat)<_;decide⟩
 intro x hx
 simp only [ou,List.mem_cons,List.not_mem_nil,or_false] at hx
 rcases hx with rfl|rfl|rfl|rfl<;>exact ⟨by first|exact h0|exact gC,by first|exact h0|exact gC⟩
theorem G2:∀x∈NJ,Sz 2 x.1/\Sz 2 x.2:=fun x hx=>Ct x (by
 simp only [NJ,List.mem_cons,List.not_mem_nil,or_false] at hx
 simp only [ou,List.mem_cons,List.not_mem_nil,or_false]
 rcases hx with rfl|rfl|rfl|rfl
 ·exact .inr (.inl rfl)
 ·exact .inr (.inr (.inl rfl))
 ·exact .inr (.inr (.inr rfl))
 ·exact .inl rfl)
theorem AA {R:View->Value->Rat×Rat->Prop}{V:View}{a b c d:List Value}{p q r s:Rat×Rat}(la:a.length=6)(lb:b.length=6)(lc:c.length=6)(ld:d.length=6)(ha:R V (.agg a.toArray) p)(hb:R V (.agg b.toArray) q)(hc:R V (.agg c.toArray) r)(hd:R V (.agg d.toArray) s) :
  Row 6 R V (a++(b++(c++d))) [p,q,r,s]:=by
 have h1:=hE (sp:=[]) (row_one lc hc) (row_one ld hd) (by decide)
 have h2:=hE (sp:=[]) (row_one lb hb) h1 (by decide)
 have h3:=hE (sp:=[]) (row_one la ha) h2 (by decide)
 have tk:∀{x:List Value},x.length=6->x.take (1*6)=x:=fun h=>List.take_of_length_le (by omega)
 simp only [List.length_singleton,List.length_cons,List.length_nil,Nat.zero_add,tk la,tk lb,tk lc,List.append_nil,List.cons_append,List.nil_append] at h3
 exact h3
theorem rL {V:View}:ab prog 38 #[] V fun r V'=>∃(bk n c:Nat)(vs:List Value),r=.slice (mA bk c) n c/\(vs≠[]->V'.w.heap[bk]?=some (.cells vs.toArray 27 (0,0)))/\(vs≠[]->V.w.heap.size<=bk)/\GR 6 di (V'.iB (vs≠[]) bk) n c vs Bn:=by
 have xy:∀{W:View} (x y:Int),x.natAbs<=1->y.natAbs<=1->ab prog 12 #[.int .i64 x,.int .i64 y] W fun r V'=>RP V' r (x:Rat) (y:Rat):=fun x y h h'=>jK x y (by omega) (by omega) (by omega) (by omega)
 refine qF V _ fun V1 l1=>(xy 0 0 (by decide) (by decide)).mono ?_
 rintro r V2 l2 g1
 have g10:qP V2 r (((0:Int):Rat),((0:Int):Rat)):=g1
 obtain ⟨_,_,_,_,_,_,_,_,_,_,_,_,_,_,rfl⟩:=g10.shape
 refine ⟨_,_,_,_,_,_,_,_,_,_,_,_,_,_,rfl,fun V3 l3=>(xy 1 0 (by decide) (by decide)).mono ?_⟩
 rintro r V4 l4 g2
 have g20:qP V4 r (((1:Int):Rat),((0:Int):Rat)):=g2
 obtain ⟨_,_,_,_,_,_,_,_,_,_,_,_,_,_,rfl⟩:=g20.shape
 refine ⟨_,_,_,_,_,_,_,_,_,_,_,_,_,_,rfl,fun V5 l5=>(xy 1 1 (by decide) (by decide)).mono ?_⟩
 rintro r V6 l6 g3
 have mq:qP V6 r (((1:Int):Rat),((1:Int):Rat)):=g3
 obtain ⟨_,_,_,_,_,_,_,_,_,_,_,_,_,_,rfl⟩:=mq.shape
 refine ⟨_,_,_,_,_,_,_,_,_,_,_,_,_,_,rfl,fun V7 l7=>(xy 0 1 (by decide) (by decide)).mono ?_⟩
 rintro r V8 l8 g4
 have Fy:qP V8 r (((0:Int):Rat),((1:Int):Rat)):=g4
 obtain ⟨_,_,_,_,_,_,_,_,_,_,_,_,_,_,rfl⟩:=Fy.shape
 have Ro:=l7.trans l8
 have J4:=l5.trans (l6.trans Ro)
 have hrow:Row 6 qP V8 _ ou:=AA (a:=[_,_,_,_,_,_]) (b:=[_,_,_,_,_,_]) (c:=[_,_,_,_,_,_]) (d:=[_,_,_,_,_,_]) rfl rfl rfl rfl (g10.le (l3.trans (l4.trans J4))) (g20.le J4) (mq.le Ro) Fy
 refine ⟨_,_,_,_,_,_,_,_,_,_,_,_,_,_,rfl,fun z V'=>∃j:Nat,z.2.2.2.1=(j:Int)/\j<=4/\Row 6 qP V' z.2.2.2.2 ou/\GR 6 di V' z.1 z.2.1 z.2.2.1 (Bn.take j),fun z=>4-z.2.2.2.1.toNat,⟨(0,0,[],0,_),by and_intros<;>rfl,0,rfl,by omega,hrow,GR.nil⟩,?_⟩
 rintro ⟨z1,z2,vs,z4,ps⟩ V9 l9 ⟨j,e4,EY,hps,hg⟩
 dsimp only at e4 hg hps
 subst e4
 have zl:=hg.len
 rw [List.length_take] at zl
 have hq4:Bn.length=4:=rfl
 have U9:ou.length=4:=rfl
 refine ⟨rfl,fun hlt=>?_,fun hlt oo bk cU hb hfr=>?_⟩
 ·have hlt:(j:Int)<4:=of_decide_eq_true hlt
  have hi:j<4:=by omega
  have w:i64.wrap ((j:Int)+1)=((j+1:Nat):Int):=by rw [aw (by omega)];rfl
  have hm:(((j+1:Nat):Int)).tmod (4:Int)=(((j+1)%4:Nat):Int):=by
   have:=Int.ofNat_tmod (j+1) 4
   exact this.symm
  dsimp only
  rw [w,hm]
  simp only [Int.toNat_natCast,Nat.zero_add]
  obtain ⟨b1,p1,n1,c1,p2,n2,c2,b2,p3,n3,c3,p4,n4,c4,lp,ep,gp⟩:=GU qP.shape hps (i:=j) (by omega)
  obtain ⟨b1',Mw,n1',c1',Pu,Pn,c2',b2',Pv,Po,c3',T7,n4',SP,TX,Ns,S_⟩:=GU qP.shape hps (i:=(j+1)%4) (by omega)
  obtain ⟨hne,hth⟩:=Ko ⟨j,hi⟩
  have ej:ou.getD j (0,0)=ou[j]:=iA (by omega)
  have SU:ou.getD ((j+1)%4) (0,0)=ou[(j+1)%4]:=iA (by omega)
  have el:Bn.getD j (0,0,0)=Bn[j]:=iA (by omega)
  have hne:¬((ou.getD j (0,0)).1=(ou.getD ((j+1)%4) (0,0)).1/\(ou.getD j (0,0)).2=(ou.getD ((j+1)%4) (0,0)).2):=hne
  have hth:Cv (ou.getD j (0,0)).1 (ou.getD j (0,0)).2 (ou.getD ((j+1)%4) (0,0)).1 (ou.getD ((j+1)%4) (0,0)).2=Bn.getD j (0,0,0):=hth
  rw [ej,SU] at hne hth
  rw [el] at hth
  obtain ⟨s1,s2⟩:=Ct _ (List.getElem_mem (show j<ou.length by omega))
  obtain ⟨s3,s4⟩:=Ct _ (List.getElem_mem (show (j+1)%4<ou.length by omega))
  refine ⟨⟨by omega,by omega⟩,_,_,_,_,_,_,_,_,_,_,_,_,_,_,⟨lp,ep⟩,by decide,⟨by omega,by omega⟩,_,_,_,_,_,_,_,_,_,_,_,_,_,_,⟨TX,Ns⟩,fun kn l10=>(EA (qP.le gp l10) (qP.le S_ l10) s1 s2 s3 s4 (by omega) (by omega)).mono ?_⟩
  rintro r ko bR ⟨-,hr⟩
  obtain ⟨l,rfl,gl⟩:=hr hne
  have QW:di ko l Bn[j]:=by rw [←hth];exact gl
  obtain ⟨_,_,_,_,_,_,_,_,_,_,_,_,rfl⟩:=bO QW
  refine ⟨_,_,_,_,_,_,_,_,_,_,_,_,_,rfl,by omega,hg.le,hg.cap,rfl,H6,fun sp c' h1 h2=>⟨(z1+1,c',_,((j+1:Nat):Int),ps),by dsimp only;omega,by and_intros<;>first|rfl|trivial,j+1,rfl,by omega,hps.le fun _ _ g=>qP.le g (l10.trans bR),?_⟩⟩
  dsimp only
  rw [List.take_add_one,List.getElem?_eq_getElem (by omega)]
  exact (hg.mono (V':=ko) fun _ _ g=>di.le g (l10.trans bR)).snoc rfl QW (by decide) h1 h2
 ·have hlt:¬(j:Int)<4:=of_decide_eq_false hlt
  obtain rfl:j=4:=by omega
  exact ⟨bk,z1,z2,vs,rfl,hb,fun h=>(hfr h).elim id False.elim,hg.mono fun _ _ g=>di.le g cU⟩
set_option maxHeartbeats 1000000 in
theorem lT {V:View}{yi ye yu:Value}(E:Er V yi ye yu):ab prog 14 #[] V fun r V'=>r=.bool true:=by
 have xy:∀{W:View} (x y:Int),x.natAbs<=1->y.natAbs<=1->ab prog 12 #[.int .i64 x,.int .i64 y] W fun r V'=>RP V' r (x:Rat) (y:Rat):=fun x y h h'=>jK x y (by omega) (by omega) (by omega) (by omega)
 obtain ⟨cs,hcs,e1⟩:=Option.map_eq_some_iff.1 Kn
 obtain ⟨e1,e2⟩:=Prod.mk.inj e1
 refine tV V _ fun V1 l1=>rL.mono ?_
 rintro r V2 l2 ⟨bm,n,c,vm,rfl,f1,f2,hg⟩
 refine ⟨bm,vm,f1,fun h=>.inl (f2 h),none,n,c,rfl,fun V3 l3 bk hbk=>?_⟩
 have dq:V1.Le V3:=(sI l2 fun h=>.inl (f2 h)).trans l3
 have hL:cK 6 di V3 (mA bk c) n Bn:=by
  rw [hg.len]
  exact cK.fL hbk (hg.row.le fun _ _ g=>di.le g fun b o h=>l3 b o h) (by decide) (by have:=hg.le;have:=hg.len;omega)
 refine (lW hL (by decide) AH).mono ?_
 rintro r V4 l4 ⟨q,m,e,rfl,hW⟩
 have L4:=l1.trans (dq.trans l4)
 refine ⟨_,_,_,rfl,fun J V5 l5=>(um (cK.q (hW.le l5 fun _ _ g=>di.le g l5)) AH (E.le (L4.trans l5))).mono ?_⟩
 rintro r V6 l6 hA
 obtain ⟨-,hA⟩:=hA.some G0 hcs
 obtain ⟨wa,rfl,gA,sA⟩:=hA e2
 rw [e1,Iu] at gA
 have S3:=gA
 obtain ⟨_,_,_,_,_,_,_,rfl⟩:=gA.shape
 have l46:=l5.trans l6
 refine ⟨_,_,_,_,_,_,_,_,rfl,fun V7 l7=>(kx (cK.q (hW.le (l46.trans l7) fun _ _ g=>di.le g (l46.trans l7))) AH (E.le (L4.trans (l46.trans l7)))).mono ?_⟩
 rintro r V8 l8 hC0
 obtain ⟨q1,m1,d1,rfl,hC,-⟩:=hC0.some G0 hcs
 clear hC0
 rw [e1] at hC
 have J4:=l46.trans (l7.trans l8)
 refine ⟨_,_,_,_,rfl,fun V9 l9=>(ni (cK.q (hW.le (J4.trans l9) fun _ _ g=>di.le g (J4.trans l9))) AH (E.le (L4.trans (J4.trans l9)))).mono ?_⟩
 rintro r kn l10 Lr
 obtain ⟨q2,m2,d2,rfl,hV,-⟩:=Lr.some G0 hcs
 clear Lr
 rw [e1,Kp] at hV
 have Di:=l9.trans l10
 have LZ:=J4.trans Di
 refine ⟨_,_,_,_,rfl,fJ.1,fun _=>⟨fJ.1,fun _=>⟨fJ.1,fun _ ko bR=>?_,fun h=>by cases h⟩,fun h=>by cases h⟩,fun h=>by cases h⟩
 refine (xu (hW.le (LZ.trans bR) fun _ _ g=>di.le g (LZ.trans bR)) (hC.le (Di.trans bR) fun _ _ g=>di.le g (Di.trans bR)) (by decide) AH).mono ?_
 rintro r oo cU rfl
 have L1:=l7.trans (l8.trans (Di.trans (bR.trans cU)))
 refine ⟨_,rfl,fun _ rk dq=>(Ju (S3.le (L1.trans dq)) (k:=2) gC (by omega)).mono ?_,fun h=>by cases h⟩
 rintro r ow fh gq
 have Tb:=gq
 obtain ⟨_,_,_,_,_,_,rfl⟩:=gq.shape
 refine ⟨_,_,_,_,_,_,_,rfl,fun mU eC=>(jd 1 (by omega) (by omega)).mono ?_⟩
 rintro r lk dO g1
 have g10:=g1
 obtain ⟨_,_,_,_,_,_,rfl⟩:=g1.shape
 refine ⟨_,_,_,_,_,_,_,rfl,fun oz dR=>(xn (Tb.le (eC.trans (dO.trans dR))) (g10.le dR) gC gC (by omega)).mono ?_⟩
 rintro r qQ eu rfl
 have FT:=dq.trans (fh.trans (eC.trans (dO.trans (dR.trans eu))))
 refine ⟨_,rfl,fun _ vD eT=>(xy 1 0 (by decide) (by decide)).mono ?_,fun h=>by
  rw [show fy ((1:Int):Rat) ((1:Int):Rat)=0 from iw.1 rfl] at h;cases h⟩
 rintro r Bl jh h1
 have h10:qP Bl r (((1:Int):Rat),((0:Int):Rat)):=h1
 obtain ⟨_,_,_,_,_,_,_,_,_,_,_,_,_,_,rfl⟩:=h10.shape
 refine ⟨_,_,_,_,_,_,_,_,_,_,_,_,_,_,rfl,fun yM gJ=>(xy 1 1 (by decide) (by decide)).mono ?_⟩
 rintro r vE kq h2
 have h20:qP vE r (((1:Int):Rat),((1:Int):Rat)):=h2
 obtain ⟨_,_,_,_,_,_,_,_,_,_,_,_,_,_,rfl⟩:=h20.shape
 refine ⟨_,_,_,_,_,_,_,_,_,_,_,_,_,_,rfl,fun Br jR=>(xy 0 1 (by decide) (by decide)).mono ?_⟩
 rintro r II B3 h3
 have Q4:qP II r (((0:Int):Rat),((1:Int):Rat)):=h3
 obtain ⟨_,_,_,_,_,_,_,_,_,_,_,_,_,_,rfl⟩:=Q4.shape
 refine ⟨_,_,_,_,_,_,_,_,_,_,_,_,_,_,rfl,fun Ho uh=>(xy 0 0 (by decide) (by decide)).mono ?_⟩
 rintro r Jk zZ h4
 have Nw:qP Jk r (((0:Int):Rat),((0:Int):Rat)):=h4
 obtain ⟨_,_,_,_,_,_,_,_,_,_,_,_,_,_,rfl⟩:=Nw.shape
 have FX:=uh.trans zZ
 have xK:=jR.trans (B3.trans FX)
 refine ⟨_,_,_,_,_,_,_,_,_,_,_,_,_,_,rfl,fun KS nD bk hb=>?_⟩
 have hrow:Row 6 qP KS _ NJ:=AA (a:=[_,_,_,_,_,_]) (b:=[_,_,_,_,_,_]) (c:=[_,_,_,_,_,_]) (d:=[_,_,_,_,_,_]) rfl rfl rfl rfl (h10.le (gJ.trans (kq.trans (xK.trans nD)))) (h20.le (xK.trans nD)) (Q4.le (FX.trans nD)) (Nw.le nD)
 refine (xr (cK.B_ hb hrow) (by decide) G2 (by omega)).mono ?_
 rintro r KT Hk ⟨q3,m3,d3,rfl,hP⟩
 refine ⟨_,_,_,rfl,fun _ N0 FY=>(rN (hV.le (bR.trans (cU.trans (FT.trans (eT.trans (jh.trans (gJ.trans (kq.trans (xK.trans (nD.trans (Hk.trans FY)))))))))) fun _ _ g=>fr.le g (bR.trans (cU.trans (FT.trans (eT.trans (jh.trans (gJ.trans (kq.trans (xK.trans (nD.trans (Hk.trans FY)))))))))) ) (hP.le FY fun _ _ g=>fr.le g FY) (by decide) G2 (by omega)).mono ?_⟩
 rintro r KU Ej rfl
 exact ⟨_,rfl,fun RX NC=>rfl⟩
theorem Oe {V:View}{tb:Nat}{p:OA}{n c:Nat}{at_:Int}(hr:ES V p n)(hn:n<=400)(hw:mX V tb p n c at_)(hx:V.X tb)(h0:0<=at_) :
  ab prog 72 #[.pointer (some ⟨tb,0,none⟩),.int .i64 7] V fun r V'=>∃(at':Int)(ls:List L3)(bk n' c':Nat)(vs:List Value),0<=at'/\mX V' tb p n c at'/\r=.slice (mA bk c') n' c' /\
   (vs≠[]->V'.w.heap[bk]?=some (.cells vs.toArray 27 (0,0)))/\(vs≠[]->V.w.heap.size<=bk)/\GR 6 di (V'.iB (vs≠[]) bk) n' c' vs ls/\ls.length<=7/\∀l∈ls,du l=true/\Bd l:=by
 have w8:i64.wrap ((7:Int)+1)=8:=aw (by omega)
 refine pB tb p n c at_ 7 V _ hw hx fun V1 l1 bk1 e1 h1=>?_
 rw [w8]
 refine (oG (V:=V1.bf [bk1]) 8 (hr.le fun b o h=>l1 b o h) hn e1 ⟨by simp,h1⟩ h0 (by omega) (by omega)).mono ?_
 rintro r V2 l2 ⟨x,E9,rfl,x0,x1,t1,hw1⟩
 refine ⟨_,rfl,p,n,c,E9,hw1,fun z V'=>∃(ls:List L3),z.2.2.2.2.1=p/\z.2.2.2.2.2.1=n/\z.2.2.2.2.2.2.1=c/\0<=z.2.2.2.2.2.2.2/\0<=z.2.2.2.1/\(ls.length:Int)+z.2.2.2.1<=7/\GR 6 di V' z.1 z.2.1 z.2.2.1 ls/\(∀l∈ls,du l=true/\Bd l),fun z=>z.2.2.2.1.toNat,
  ⟨(0,0,[],x,p,n,c,E9),by and_intros<;>rfl,[],rfl,rfl,rfl,t1,x0,by simp;omega,GR.nil,fun l hl=>by cases hl⟩,?_⟩
 rintro ⟨z1,z2,vs,i,zp,zn,zc,za⟩ V3 l3 ⟨ls,e5,e6,e7,ha,hi0,Tt,hg,hls⟩
 dsimp only at e5 e6 e7 ha hi0 Tt hg
 subst e5 e6 e7
 have jR:V1.Le V3:=fun b o h=>l3 b o (l2 b o h)
 refine ⟨rfl,fun hlt V4 l4 SM e9 h9=>?_,fun hlt V6 bk Th e6 f1 f2=>?_⟩
 ·have hlt:i>0:=of_decide_eq_true hlt
  have w:i64.wrap (i-1)=i-1:=aw (by omega)
  refine (SQ (V:=V4.bf [SM]) (hr.le fun b o h=>l4 b o (jR b o (l1 b o h))) hn e9 ⟨by simp,h9⟩ ha).mono ?_
  rintro r V5 l5 ⟨l,at2,hl,ok,bd,t2,hw2⟩
  have hl0:di V5 r l:=hl
  obtain ⟨_,_,_,_,_,_,_,_,_,_,_,_,rfl⟩:=bO hl0
  have zl:=hg.len
  rw [w]
  refine ⟨_,_,_,_,_,_,_,_,_,_,_,_,rfl,zp,zn,zc,at2,hw2,by omega,hg.le,hg.cap,rfl,H6,fun sp c' k1 k2=>⟨(z1+1,c',_,i-1,zp,zn,zc,at2),by dsimp only;omega,by and_intros<;>rfl,ls++[l],rfl,rfl,rfl,t2,by dsimp only;omega,?_,?_,?_⟩⟩
  ·dsimp only
   rw [List.length_append,List.length_singleton]
   omega
  ·exact (hg.mono (V':=V5.shut) fun _ _ g=>di.le (V:=V3) (V':=V5.shut) g fun b o h=>l5 b o (l4 b o h)).snoc rfl (di.le (V:=V5) (V':=V5.shut) hl0 fun b o h=>h) (by decide) k1 k2
  ·intro y hy
   rcases List.mem_append.1 hy with hy|hy
   ·exact hls y hy
   ·rw [List.mem_singleton.1 hy];exact ⟨ok,bd⟩
 ·have hlt:¬i>0:=of_decide_eq_false hlt
  exact ⟨za,ls,bk,z1,z2,vs,ha,e6,rfl,f1,fun h=>(f2 h).elim id False.elim,hg.mono fun _ _ g=>di.le g Th,by omega,hls⟩
theorem Dd:Sz 10 (mkRat 1 7)/\Sz 10 (mkRat 1 5):=by unfold Sz;decide +kernel
set_option maxHeartbeats 1000000 in
theorem Jv {V:View}{tb:Nat}{p:OA}{n c:Nat}{at_:Int}(hr:ES V p n)(hn:n<=400)(hw:mX V tb p n c at_)(hx:V.X tb)(h0:0<=at_) :
  ab prog 20 #[.pointer (some ⟨tb,0,none⟩)] V fun r V'=>∃(at':Int)(ls:List L3)(q:OA)(m e:Nat),0<=at'/\mX V' tb p n c at'/\r=.slice q m e/\cK 6 di V' q m ls/\ls.length<=7/\∀l∈ls,du l=true/\Bd l:=by
 refine vf tb p n c at_ V _ hw hx fun V1 l1 bk1 e1 h1=>(Oe (V:=V1.bf [bk1]) (hr.le fun b o h=>l1 b o h) hn e1 ⟨by simp,h1⟩ h0).mono ?_
 rintro r V2 l2 ⟨E9,ls,bm,n1,c1,vm,t1,hw1,rfl,f1,f2,hg,hlen,hls⟩
 have f2':vm≠[]->V1.w.heap.size<=bm:=f2
 have zl:=hg.len
 have NQ:=hg.le
 have UQ:=hg.cap
 refine ⟨bm,vm,f1,fun h=>.inl (f2' h),none,n1,c1,rfl,p,n,c,E9,hw1,fun V3 l3 SL e3 h3=>?_⟩
 have dq:V1.Le V3:=fun b o hb=>l3 b o (sI (V:=V1.bf [bk1]) l2 (fun h=>.inl (f2' h)) b o hb)
 have hg3:GR 6 di V3 n1 c1 vm ls:=hg.mono fun _ _ g=>di.le g fun b o h=>l3 b o h
 have Rm:=l1.trans dq
 refine (oG (V:=V3.bf [SL]) 3 (hr.le fun b o h=>Rm b o h) hn e3 ⟨by simp,h3⟩ t1 (by omega) (by omega)).mono ?_
 rintro r V4 l4 ⟨x,at2,rfl,x0,x1,t2,hw2⟩
 refine ⟨_,rfl,p,n,c,at2,hw2,fun hz V5 l5 N8 e5 hb=>?_,fun hz V6 l6 N9 e6 h6=>?_⟩
 ·have TT:V3.Le V5:=fun b o h=>l5 b o (l4 b o h)
  refine ⟨at2,ls,mA N8 c1,n1,c1,t2,e5,rfl,?_,hlen,hls⟩
  rw [zl]
  exact cK.fL hb (hg3.row.le fun _ _ g=>di.le g TT) (by decide) (by omega)
 have ND:V3.Le V6:=fun b o h=>l6 b o (l4 b o h)
 have LW:=Rm.trans ND
 refine (QM (V:=V6.bf [N9]) (hr.le fun b o h=>LW b o h) hn e6 ⟨by simp,h6⟩ t2).mono ?_
 rintro r V7 l7 ⟨q1,at3,g7,s7,t3,hw3⟩
 have HG:=g7
 obtain ⟨_,_,_,_,_,_,rfl⟩:=g7.shape
 refine ⟨_,_,_,_,_,_,_,rfl,p,n,c,at3,hw3,fun V8 l8=>(jI 1 7 (by omega) (by omega) (by omega) (by omega)).mono ?_⟩
 rintro r V9 l9 g9
 have S2:=g9
 obtain ⟨_,_,_,_,_,_,rfl⟩:=g9.shape
 have L7:V7.Le V9:=fun b o h=>l9 b o (l8 b o h)
 have Pg:V6.Le V9:=fun b o h=>L7 b o (l7 b o h)
 refine ⟨_,_,_,_,_,_,_,rfl,fun kn l10=>(dA (HG.le (L7.trans l10)) (S2.le l10) s7 Dd.1 (by omega)).mono ?_⟩
 rintro r ko bR g11
 have Oi:=g11
 obtain ⟨_,_,_,_,_,_,rfl⟩:=g11.shape
 have tq:Sz 40 (q1+mkRat 1 7):=(s7.add Dd.1).mono (by omega)
 have I3:=Pg.trans (l10.trans bR)
 refine ⟨_,_,_,_,_,_,_,rfl,fun oo cU Oa e12 h12=>(QM (V:=oo.bf [Oa]) (hr.le fun b o h=>cU b o (I3 b o (LW b o h))) hn e12 ⟨by simp,h12⟩ t3).mono ?_⟩
 rintro r rk Pf ⟨q2,at4,g13,s13,t4,hw4⟩
 have Oj:=g13
 obtain ⟨_,_,_,_,_,_,rfl⟩:=g13.shape
 have J1:ko.Le rk:=fun b o h=>Pf b o (cU b o h)
 refine ⟨_,_,_,_,_,_,_,rfl,p,n,c,at4,hw4,fun ow fh=>(jI 1 5 (by omega) (by omega) (by omega) (by omega)).mono ?_⟩
 rintro r mU eC g15
 have Ok:=g15
 obtain ⟨_,_,_,_,_,_,rfl⟩:=g15.shape
 have FU:rk.Le mU:=fun b o h=>eC b o (fh b o h)
 refine ⟨_,_,_,_,_,_,_,rfl,fun lk dO=>(dA (Oj.le (FU.trans dO)) (Ok.le dO) s13 Dd.2 (by omega)).mono ?_⟩
 rintro r oz dR g17
 have Ol:=g17
 obtain ⟨_,_,_,_,_,_,rfl⟩:=g17.shape
 have Uf:Sz 40 (q2+mkRat 1 5):=(s13.add Dd.2).mono (by omega)
 have FR:=J1.trans (FU.trans (dO.trans dR))
 have LY:=ND.trans (I3.trans FR)
 refine ⟨_,_,_,_,_,_,_,rfl,fun z V'=>∃(j:Nat)(ms:List L3),z.1=(j:Int)/\j<=n1/\ms.length=ls.length/\Row 6 di V' z.2 ms/\z.2.length=vm.length/\∀l∈ms,du l=true/\Bd l,fun z=>n1-z.1.toNat,⟨(0,vm),by and_intros<;>rfl,0,ls,rfl,Nat.zero_le _,rfl,hg3.row.le fun _ _ g=>di.le g LY,rfl,hls⟩,?_⟩
 rintro ⟨z1,vs⟩ qQ eu ⟨j,ms,Nr,EY,hml,hrow,hvl,hms⟩
 dsimp only at Nr hrow hvl
 subst Nr
 refine ⟨rfl,fun hlt=>?_,fun hlt Br jR bk e23 hb=>?_⟩
 ·have hlt:(j:Int)<n1:=of_decide_eq_true hlt
  have hj:j<ms.length:=by omega
  have w:i64.wrap ((j:Int)+1)=((j+1:Nat):Int):=by rw [aw (by omega)];rfl
  dsimp only
  rw [Int.toNat_natCast,w]
  obtain ⟨b1,p1,n1',c1',b2,p2,n2,c2,b3,p3,n3,c3,eU,Li,hl⟩:=Kl hrow hj
  obtain ⟨ok,bd⟩:=hms _ (List.getElem_mem hj)
  have hp:RP qQ _ (q1+mkRat 1 7) (q2+mkRat 1 5):=⟨_,_,_,_,_,_,_,_,_,_,_,_,rfl,Oi.le (FR.trans eu),Ol.le eu⟩
  refine ⟨⟨by omega,by omega⟩,NQ,b1,p1,n1',c1',b2,p2,n2,c2,b3,p3,n3,c3,⟨eU,Li⟩,fun vD eT=>(Kh (L:=ms[j]) (hl.le eT) (hp.le eT) (k:=1000) bd.pY (tq.mono (by omega)) (Uf.mono (by omega)) (by omega)).mono ?_⟩
  rintro r Bl jh rfl
  have B2:=eT.trans jh
  refine ⟨_,rfl,fun hc yM gJ=>(zt (a:=ms[j].1) (b:=ms[j].2.1) (c:=ms[j].2.2) (hl.le (B2.trans gJ))).mono ?_,fun hc=>⟨(((j+1:Nat):Int),vs),by dsimp only;omega,by and_intros<;>rfl,j+1,ms,rfl,by omega,hml,hrow.le fun _ _ g=>di.le g B2,hvl,hms⟩⟩
  rintro r vE kq gr
  have QY:di vE r (gB ms[j]):=gr
  obtain ⟨_,_,_,_,_,_,_,_,_,_,_,_,rfl⟩:=bO QY
  have J2:=B2.trans (gJ.trans kq)
  refine ⟨_,_,_,_,_,_,_,_,_,_,_,_,rfl,⟨by omega,by omega⟩,NQ,eU,(((j+1:Nat):Int),cW vs (j*6) [_,_,_,_,_,_]),by dsimp only;omega,by and_intros<;>rfl,j+1,ms.set j (gB ms[j]),rfl,by omega,by rw [List.length_set];exact hml,?_,?_,?_⟩
  ·exact (hrow.le (V':=vE) fun _ _ g=>di.le g J2).put hj (by decide) rfl QY
  ·exact (pW (xs:=[_,_,_,_,_,_]) eU).trans hvl
  ·intro y hy
   rcases List.mem_or_eq_of_mem_set hy with hy|rfl
   ·exact hms y hy
   ·exact ⟨Gk ok,bd.rev⟩
 ·refine ⟨at4,ms,mA bk c1,n1,c1,t4,e23,rfl,?_,by omega,hms⟩
  have e:n1=ms.length:=by omega
  rw [e]
  exact cK.fL hb (hrow.le fun _ _ g=>di.le g jR) (by decide) (by omega)
end Go.Proofs.Tryz
namespace Go.Proofs.Tryz
open Go.bu
set_option maxRecDepth 100000
end Go.Proofs.Tryz
namespace Go.Proofs.Tryz
open Go.bu Go.eQ
def Hg (V:View)(w:Value)(p:Rat×Rat):Prop:=(∃b q n c q' n' c' d r m e r' m' e',w=.agg #[.bool b,.slice q n c,.slice q' n' c',.bool d,.slice r m e,.slice r' m' e']) /\
 ∀V1,V.Le V1->ab prog 115 #[w] V1 fun r V'=>mT V' r p.1 p.2
theorem Hg.le {V V':View}{w:Value}{p:Rat×Rat}(h:Hg V w p)(l:V.Le V'):Hg V' w p:=⟨h.1,fun V1 l1=>h.2 V1 (l.trans l1)⟩
theorem Hg.of {V:View}{w:Value}{p:Rat×Rat}(h:E2 V w p.1 p.2){k:Nat}(s1:Sz k p.1)(s2:Sz k p.2)(hk:k<=1099511627776):Hg V w p:=by
 refine ⟨?_,fun V1 l1=>BE (h.le l1) s1 s2 hk⟩
 obtain ⟨b,q,n,c,q',n',c',d,r,m,e,r',m',e',rfl,-⟩:=h
 exact ⟨_,_,_,_,_,_,_,_,_,_,_,_,_,_,rfl⟩
theorem Hg.raw {V:View}{b d:Bool}{q q' r r':OA}{n c n' c' m e m' e':Nat}{xs ys us vs:List Nat}(h1:RD V q n c xs)(h2:RD V q' n' c' ys)(h3:RD V r m e us)(h4:RD V r' m' e' vs)(k1:xs.length<=1000000)(k2:ys.length<=1000000)(k3:us.length<=1000000)(k4:vs.length<=1000000) :
  Hg V (.agg #[.bool b,.slice q n c,.slice q' n' c',.bool d,.slice r m e,.slice r' m' e']) (mkRat (aS b xs) (val ys),mkRat (aS d us) (val vs)):=by
 refine ⟨⟨_,_,_,_,_,_,_,_,_,_,_,_,_,_,rfl⟩,fun V0 l0=>?_⟩
 refine qf b q n c q' n' c' d r m e r' m' e' V0 _ fun V1 l1=>(mh b (h1.le (l0.trans l1)) (h2.le (l0.trans l1)) (by omega) (by omega)).mono ?_
 rintro r V2 l2 g
 have g0:=g
 obtain ⟨x1,x2,x3,rfl⟩:=g.shape
 refine ⟨_,_,_,rfl,fun V3 l3=>(mh d (h3.le (l0.trans (l1.trans (l2.trans l3)))) (h4.le (l0.trans (l1.trans (l2.trans l3)))) (by omega) (by omega)).mono ?_⟩
 rintro r V4 l4 g'
 have g0':=g'
 obtain ⟨y1,y2,y3,rfl⟩:=g'.shape
 exact ⟨_,_,_,rfl,fun V5 l5=>⟨_,_,_,_,_,_,rfl,g0.le (l3.trans (l4.trans l5)),g0'.le l5⟩⟩
theorem Hg.zero {V:View}:Hg V (.agg #[.bool false,.slice none 0 0,.slice none 0 0,.bool false,.slice none 0 0,.slice none 0 0]) (0,0):=by
 have e:mkRat (aS false []) (val [])=0:=by decide
 have:=@Hg.raw V false false none none none none 0 0 0 0 0 0 0 0 [] [] [] [] RD.nil RD.nil RD.nil RD.nil (by decide) (by decide) (by decide) (by decide)
 rw [e] at this
 exact this
theorem uo {V:View}{p:OA}{n c:Nat}{ls:List L3}(h:cK 6 pC V p n ls)(hb:∀l∈ls,Bd l){lv:Value}{l:L3}(hl:di V lv l)(hbl:Bd l)(hok:du l=true){yi ye yu:Value}(E:Er V yi ye yu) :
  ab prog 77 #[.agg #[.slice p n c],lv] V fun r V'=>∃w,rf V' w l/\Bk ls (r=.tuple #[.slice none 0 0,w,yi]) (r=.tuple #[.slice none 0 0,w,ye]) fun cs=>(∃q m e,r=.tuple #[.slice q m e,w,.nilIface]/\cK 17 fE V' q m cs/\m<=e)/\fN ls.reverse cs/\cs.length<=100000:=by
 have hl0:=hl
 obtain ⟨_,_,_,_,_,_,_,_,_,_,_,_,rfl⟩:=bO hl
 refine tH p n c _ _ _ _ _ _ _ _ _ _ _ _ V _ fun V1 l1=>(pH (x:=l) (hl0.le l1) hbl).mono ?_
 rintro r V2 l2 ⟨w,rfl,⟨_,_,_,_,_,_,_,_,_,rfl⟩,hw⟩
 have hw:=hw hok
 rw [hok]
 refine ⟨_,_,_,_,_,_,_,_,_,_,rfl,(fun hf=>by cases hf),fun _ V4 l4=>(fF (h.le (l1.trans (l2.trans l4)) fun _ _ g=>pC.le g (l1.trans (l2.trans l4))) hb (E.le (l1.trans (l2.trans l4)))).mono ?_⟩
 rintro r V5 l5 (⟨ho,rfl⟩|⟨ho,hc,rfl⟩|⟨ho,cs,hc,⟨q,m,e,rfl,hL,hm⟩,hC,hl⟩)
 ·exact ⟨_,_,_,_,rfl,fun V6 l6=>⟨_,qO.le hw (l4.trans (l5.trans l6)),.inl ⟨ho,rfl⟩⟩⟩
 ·exact ⟨_,_,_,_,rfl,fun V6 l6=>⟨_,qO.le hw (l4.trans (l5.trans l6)),.inr (.inl ⟨ho,hc,rfl⟩)⟩⟩
 ·exact ⟨_,_,_,_,rfl,fun V6 l6=>⟨_,qO.le hw (l4.trans (l5.trans l6)),.inr (.inr ⟨ho,cs,hc,⟨_,_,_,rfl,hL.le l6 fun _ _ g=>fE.le g l6,hm⟩,hC,hl⟩)⟩⟩
theorem ky {V:View}{p:OA}{n c:Nat}{ls:List L3}(h:cK 6 pC V p n ls)(hb:∀l∈ls,Bd l){lv:Value}{l:L3}(hl:di V lv l)(hbl:Bd l)(hok:du l=true){yi ye yu:Value}(E:Er V yi ye yu) :
  ab prog 22 #[.agg #[.slice p n c],lv] V fun r V'=>Bk ls (r=.tuple #[.int .i64 0,yi]) (r=.tuple #[.int .i64 0,ye]) fun cs=>r=.tuple #[.int .i64 (Gx cs l),.nilIface]:=by
 have hl0:=hl
 obtain ⟨_,_,_,_,_,_,_,_,_,_,_,_,rfl⟩:=bO hl
 refine qt p n c _ _ _ _ _ _ _ _ _ _ _ _ V _ fun V1 l1=>(uo (h.le l1 fun _ _ g=>pC.le g l1) hb (hl0.le l1) hbl hok (E.le l1)).mono ?_
 rintro r V2 l2 ⟨w,hw,(⟨ho,rfl⟩|⟨ho,hc,rfl⟩|⟨ho,cs,hc,⟨q,m,e,rfl,hL,hm⟩,hC,hl⟩)⟩
 ·obtain ⟨i1,i2⟩:=nt E.si
  obtain ⟨_,_,_,_,_,_,_,_,_,rfl,-⟩:=hw
  exact ⟨_,_,_,_,_,_,_,_,_,_,_,_,_,rfl,i1,fun _ V3 l3=>.inl ⟨ho,rfl⟩,fun hf=>by rw [i2] at hf;cases hf⟩
 ·obtain ⟨i1,i2⟩:=nt E.se
  obtain ⟨_,_,_,_,_,_,_,_,_,rfl,-⟩:=hw
  exact ⟨_,_,_,_,_,_,_,_,_,_,_,_,_,rfl,i1,fun _ V3 l3=>.inr (.inl ⟨ho,hc,rfl⟩),fun hf=>by rw [i2] at hf;cases hf⟩
 ·have hw0:=hw
  obtain ⟨_,_,_,_,_,_,_,_,_,rfl,-⟩:=hw
  refine ⟨_,_,_,_,_,_,_,_,_,_,_,_,_,rfl,fJ.1,(fun hf=>by cases hf),fun _ V4 l4=>(m_ (hL.le l4 fun _ _ g=>fE.le g l4) (hw0.le l4) hbl (by omega)).mono ?_⟩
  rintro r V5 l5 rfl
  exact ⟨_,rfl,fun V6 l6=>.inr (.inr ⟨ho,cs,hc,rfl⟩)⟩
def De (V:View):View:=⟨V.w,fun b=>b<V.w.heap.size,fun _=>False,fun _ h=>h,fun _ h=>h.elim⟩
theorem Bt {f:FuncId}{args:Array Value}{V:View}{o:Obj}(h:ab prog f args (De V) fun r V'=>∃bk,r=.pointer (some ⟨bk,0,none⟩)/\V'.bq bk o) :
  ab prog f args V fun r V'=>∃bk,r=.pointer (some ⟨bk,0,none⟩)/\V.w.heap.size<=bk/\V'.bq bk o:=
 ⟨h.1,h.2.mono fun _ _ ⟨_,he,hx,bk,hr,hb⟩=>⟨_,he,⟨hx.size,fun b hb _=>hx.bq b hb (fun h=>h),hx.os,hx.tape,hx.out⟩,bk,hr,Nat.le_of_not_lt hb.1,fun hh=>hb.1 (V.hH bk hh),hb.2⟩⟩
theorem zx {V:View}{lp:OA}{ln lc:Nat}(hc:ln<=lc) :
  ab prog 21 #[.slice lp ln lc] V fun r V'=>∃bk,r=.pointer (some ⟨bk,0,none⟩)/\V.w.heap.size<=bk/\V'.bq bk (.cells #[.slice lp (min ln 400) lc,.int .i64 0] 136 (0,0)):=by
 refine Bt (yH lp ln lc (De V) _ ?_)
 have e:bF (ln:Int) 400=((min ln 400:Nat):Int):=by
  unfold bF
  simp only [Nat.min_def]
  split<;>split<;>omega
 rw [e,Int.toNat_natCast]
 have:=Nat.min_le_left ln 400
 exact ⟨⟨by omega,by omega⟩,fun V1 l1 bk hb=>⟨bk,rfl,hb⟩⟩
theorem F2 {V1 V2 V3:View}{bk:Nat}(l2:V1.Le V2)(hfr:V1.w.heap.size<=bk)(l3:(V2.FG bk).Le V3):V1.Le V3:=fun b o h=>l3 b o ⟨fun hh=>hh.elim (l2 b o h).1 fun e=>by
  have hlt:b<V1.w.heap.size:=by
   rcases Nat.lt_or_ge b V1.w.heap.size with h'|h'
   ·exact h'
   ·have:=h.2;rw [Array.getElem?_eq_none h'] at this;cases this
  have:=e.1
  omega,(l2 b o h).2⟩
end Go.Proofs.Tryz
namespace Go.Proofs.Tryz
open Go.bu
set_option maxRecDepth 100000
end Go.Proofs.Tryz
namespace Go.Proofs.Tryz
open Go.bu Go.eQ
theorem Dl {V:View}{p:OA}{n:Nat}{al:List L3}(h:cK 6 di V p n al){i:Nat}(hi:i<al.length) :
  p.isSome=true/\∃(b1:Bool)(p1:OA)(n1 c1:Nat)(b2:Bool)(p2:OA)(n2 c2:Nat)(b3:Bool)(p3:OA)(n3 c3:Nat)(a:Addr),ah p (i*6)=some a/\V.at (a.add 0) (.bool b1)/\V.at (a.add 1) (.slice p1 n1 c1)/\V.at (a.add 2) (.bool b2)/\V.at (a.add 3) (.slice p2 n2 c2)/\V.at (a.add 4) (.bool b3)/\V.at (a.add 5) (.slice p3 n3 c3) /\
   di V (.agg #[.bool b1,.slice p1 n1 c1,.bool b2,.slice p2 n2 c2,.bool b3,.slice p3 n3 c3]) al[i]:=by
 obtain ⟨ad,h0,xs,h1,h2,h3⟩:=h.at_ i hi
 have h20:=h2
 obtain ⟨_,_,_,_,_,_,_,_,_,_,_,_,e⟩:=bO h2
 have e:=congrArg Array.toList (Value.agg.inj e)
 dsimp only at e
 subst e
 refine ⟨?_,_,_,_,_,_,_,_,_,_,_,_,_,ad,h0,h3 0 _ rfl,h3 1 _ rfl,h3 2 _ rfl,h3 3 _ rfl,h3 4 _ rfl,h3 5 _ rfl,h20⟩
 cases p with
 | none=>cases h0
 | some a=>rfl
theorem GS {α:Type}{sz:Nat}{R:View->Value->α->Prop}{V:View}{vs:List Value}{ls:List α}(h:Row sz R V vs ls)(k:Nat):Row sz R V (vs.drop (k*sz)) (ls.drop k):=by
 refine ⟨fun i hi=>?_⟩
 rw [List.length_drop] at hi
 obtain ⟨xs,h1,h2,h3⟩:=h.at_ (k+i) (by omega)
 refine ⟨xs,h1,by rw [List.getElem_drop];exact h2,fun j x hj=>?_⟩
 rw [List.getElem?_drop,←Nat.add_assoc,←Nat.add_mul]
 exact h3 j x hj
theorem GV {α:Type}{sz:Nat}{R:View->Value->α->Prop}{V:View}{vs:List Value}{ls:List α}(h:Row sz R V vs ls)(k:Nat):Row sz R V (vs.take (k*sz)) (ls.take k):=by
 refine ⟨fun i hi=>?_⟩
 rw [List.length_take] at hi
 obtain ⟨xs,h1,h2,h3⟩:=h.at_ i (by omega)
 refine ⟨xs,h1,by rw [List.getElem_take];exact h2,fun j x hj=>?_⟩
 have hj':=(List.getElem?_eq_some_iff.1 hj).1
 have:(i+1)*sz<=k*sz:=Nat.mul_le_mul_right _ (by omega)
 rw [Nat.succ_mul] at this
 rw [List.getElem?_take,if_pos (by omega)]
 exact h3 j x hj
theorem Is {V:View}{p:OA}{xs:List Value}{c k sz:Nat}(h:V.sl p xs)(hc:xs.length<=c*sz):V.sl (ot p c k sz) (xs.drop (k*sz)):=by
 intro i v hv
 rw [List.getElem?_drop] at hv
 obtain ⟨ad,rfl,ha⟩:=h _ _ hv
 have hlt:=(List.getElem?_eq_some_iff.1 hv).1
 unfold ot
 rw [if_neg (fun e=>by subst e;omega)]
 exact ⟨ad.add (k*sz),rfl,by rw [ry];exact ha⟩
theorem It {V:View}{p:OA}{xs:List Value}(h:V.sl p xs)(k:Nat):V.sl p (xs.take k):=by
 intro i v hv
 rw [List.getElem?_take] at hv
 split at hv
 ·exact h i v hv
 ·cases hv
theorem AB {V:View}{vs:List Value}{ls:List L3}(h:Row 6 di V vs ls)(hl:vs.length=ls.length*6):∀v∈vs,v.oneCell'=true:=by
 intro v hv
 obtain ⟨m,hm,e⟩:=List.mem_iff_getElem.1 hv
 exact nO h (by decide) (fun _ _=>Im) (m:=m) (by omega) (by rw [←e];exact List.getElem?_eq_getElem hm)
theorem rQ {ls:List L3}(hk:∀m∈ls,du m=true){q:ay.V2}(hq:ay.pos ls q):∃c,br ls [] []=some c/\fN ls.reverse c:=by
 obtain ⟨h1,h2⟩:=nj fN.nil (fun m hm=>by cases hm) hk
 rw [List.append_nil] at h1 h2
 cases e:br ls [] [] with
 | none=>exact absurd ⟨q,fun m hm=>hq m (List.mem_reverse.1 hm)⟩ (h2 e)
 | some c=>exact ⟨c,rfl,h1 c e⟩
theorem Cq {ls:List L3}(hk:∀m∈ls,du m=true):∀m∈ls.reverse,du m=true:=fun m hm=>hk m (List.mem_reverse.1 hm)
theorem J8 {M:List L3}{c:List Sd}(h:fN M c)(hk:∀m∈M,du m=true){S:List L3}(hS:S=c.map Prod.fst){i:Nat}(hi:i<S.length) :
  (∃cd,br (S.take i++S.drop (i+1)) [] []=some cd/\Gx cd S[i]=0)/\∃cd,br S [] []=some cd/\Gx cd S[i]=1:=by
 have hok:=AG h hk
 rw [←hS] at hok
 have es:=GZ h hk (l:=S[i]) (by rw [←hS];exact List.getElem_mem hi)
 rw [←hS] at es
 have nd:=Cs h
 rw [←hS] at nd
 obtain ⟨q,hq⟩:=h.pos
 have hq:=(EH h hk q).2 hq
 rw [←hS] at hq
 have sub:∀m∈S.take i++S.drop (i+1),m∈S:=fun m hm=>(List.mem_append.1 hm).elim List.mem_of_mem_take List.mem_of_mem_drop
 refine ⟨?_,?_⟩
 ·obtain ⟨cd,e1,e2⟩:=rQ (ls:=S.take i++S.drop (i+1)) (fun m hm=>hok m (sub m hm)) (q:=q) fun m hm=>hq m (sub m hm)
  obtain ⟨x,x0,x1⟩:=es
  refine ⟨cd,e1,?_⟩
  unfold Gx
  rw [if_pos (uJ e2 (Cq fun m hm=>hok m (sub m hm)) (hok _ (List.getElem_mem hi)) x0 fun m hm=>?_)]
  have hm:=List.mem_reverse.1 hm
  refine x1 m (sub m hm) fun e=>?_
  have e3:S=S.take i++S[i]::S.drop (i+1):=by rw [←List.drop_eq_getElem_cons hi,List.take_append_drop]
  rw [e3] at nd
  obtain ⟨-,n2,n3⟩:=List.nodup_append.1 nd
  obtain ⟨n4,-⟩:=List.nodup_cons.1 n2
  rcases List.mem_append.1 hm with hm|hm
  ·exact n3 m hm _ (List.mem_cons_self ..) e
  ·exact n4 (e▸hm)
 ·obtain ⟨cd,e1,e2⟩:=rQ hok hq
  obtain ⟨p1,p2⟩:=Ce e2 (Cq hok) (l:=S[i]) (List.mem_reverse.2 (List.getElem_mem hi))
  refine ⟨cd,e1,?_⟩
  unfold Gx
  rw [if_neg (by rw [p1];exact Bool.false_ne_true),p2]
set_option maxHeartbeats 1000000 in
theorem kC {V:View}{lp:OA}{ln lc:Nat}(hr:ES V lp ln)(hc:ln<=lc){yi ye yu:Value}(E:Er V yi ye yu) :
  ab prog 4 #[.slice lp ln lc] V fun r V'=>r=.bool true:=by
 refine km lp ln lc V _ fun V1 l1=>(zx hc).mono ?_
 rintro r V2 l2 ⟨tb,rfl,hfr,hb⟩
 have hrm:ES V lp (min ln 400):=fun i hi=>hr i (by have:=Nat.min_le_left ln 400;omega)
 have Lw:min ln 400<=400:=Nat.min_le_right ln 400
 generalize min ln 400=m at *
 refine ⟨tb,lp,m,lc,0,rfl,hfr,hb,fun V3 l3 SK e3 h3=>?_⟩
 have dq:V1.Le V3:=F2 l2 hfr l3
 refine (Jv (V:=V3.bf [SK]) (hrm.le fun b o h=>dq b o (l1 b o h)) Lw e3 ⟨by simp,h3⟩ (Int.le_refl 0)).mono ?_
 rintro r V4 l4 ⟨E9,ls,q,n1,c1,t1,hw1,rfl,hL,hlen,hls⟩
 have hok:∀l∈ls,du l=true:=fun l hl=>(hls l hl).1
 have hbd:∀l∈ls,Bd l:=fun l hl=>(hls l hl).2
 refine ⟨_,_,_,rfl,_,_,_,_,hw1,fun V5 l5=>(lW (hL.le (V:=V4) (V':=V5) (fun b o h=>l5 b o h) fun _ _ g=>di.le (V:=V4) (V':=V5) g fun b o h=>l5 b o h) (by omega) hbd).mono ?_⟩
 rintro r V6 l6 ⟨q2,n2,c2,rfl,hW⟩
 have ND:V3.Le V6:=fun b o h=>l6 b o (l5 b o (l4 b o h))
 have L6:V.Le V6:=l1.trans (dq.trans ND)
 refine ⟨_,_,_,rfl,fun V7 l7=>(kx (cK.q (hW.le l7 fun _ _ g=>di.le g l7)) hbd (E.le (L6.trans l7))).mono ?_⟩
 have oC:wE ls=true:=Cb (by omega) hok
 rintro r V8 l8 hC
 have L8:=L6.trans (l7.trans l8)
 cases hcan:br ls [] [] with
 | none=>
  obtain rfl:=hC.Pq oC hcan
  obtain ⟨i1,i2⟩:=nt E.se
  refine ⟨_,_,_,_,rfl,i1,fun _ V9 l9=>(lT (E.le (L8.trans l9))).mono ?_,fun hf=>by rw [i2] at hf;cases hf⟩
  rintro r kn l10 rfl
  refine ⟨_,rfl,fun _=>⟨ye,⟨_,rfl,(E.le (L8.trans (l9.trans l10))).emp⟩,fun ko bR=>(oH E.se).mono ?_⟩,fun hf=>by cases hf⟩
  rintro r oo cU rfl
  exact ⟨_,rfl,fun rk dq=>rfl⟩
 | some cs=>
  obtain ⟨q3,n3,c3,rfl,hS,hcap⟩:=hC.some oC hcan
  have Nx:=(nj fN.nil (fun m hm=>by cases hm) hok).1 cs hcan
  rw [List.append_nil] at Nx
  have Rd:∀m∈ls.reverse,du m=true:=Cq hok
  have Of:=oK hcan
  rw [List.length_nil] at Of
  have JT:=AG Nx Rd
  have JS:∀l∈cs.map Prod.fst,Bd l:=fun l hl=>by
   obtain ⟨s,hs,rfl⟩:=List.mem_map.1 hl
   exact hbd _ (List.mem_reverse.1 (Nx.mem s hs).1)
  have Ug:(cs.map Prod.fst).length<=7:=by rw [List.length_map];omega
  have need:=fun {i:Nat} (hi:i<(cs.map Prod.fst).length)=>J8 Nx Rd rfl hi
  clear hC
  generalize cs.map Prod.fst=S at *
  obtain rfl:=hS.len
  refine ⟨_,_,_,_,rfl,fJ.1,(fun hf=>by cases hf),fun _=>⟨fun z V'=>∃j:Nat,z=(j:Int)/\j<=S.length,fun z=>S.length-z.toNat,⟨0,by and_intros<;>rfl,0,rfl,Nat.zero_le _⟩,?_⟩⟩
  rintro z mU eC ⟨j,rfl,EY⟩
  have Jg:=L8.trans eC
  refine ⟨rfl,fun hlt=>?_,fun hlt II B3=>(lT (E.le (Jg.trans B3))).mono ?_⟩
  ·have hlt:(j:Int)<S.length:=of_decide_eq_true hlt
   have hj:j<S.length:=by omega
   have w:i64.wrap ((j:Int)+1)=((j+1:Nat):Int):=by rw [aw (by omega)];rfl
   rw [w]
   simp only [Int.toNat_natCast,Nat.zero_add]
   have HK:=hS.le eC fun _ _ g=>di.le g eC
   obtain ⟨xs,hsl,hxl,hrow⟩:=El HK (by decide)
   have t1:(xs.take (j*6)).length=j*6:=by rw [List.length_take];omega
   have t2:(xs.drop ((j+1)*6)).length=(S.length-(j+1))*6:=by rw [List.length_drop,hxl];omega
   have hr1:=GV hrow j
   have hr2:=GS hrow (j+1)
   have o1:=AB hr1 (by rw [t1,List.length_take];congr 1;omega)
   have o2:=AB hr2 (by rw [t2,List.length_drop])
   obtain ⟨⟨cd,ed,pd⟩,cf,ef,pf⟩:=need hj
   obtain ⟨ps,b1,p1,m1,d1,b2,p2,m2,d2,b3,p3,m3,d3,a,ha,a0,a1,a2,a3,a4,a5,hl⟩:=Dl HK hj
   have Rv:=JT _ (List.getElem_mem hj)
   have QJ:=JS _ (List.getElem_mem hj)
   refine ⟨⟨by omega,by omega⟩,⟨by omega,by omega⟩,xs.take (j*6),It hsl _,t1,by omega,Nat.le_refl _,by simp,t1,o1,fun SH J sp c4 k1 k2=>⟨xs.drop ((j+1)*6),Is hsl (by rw [hxl];exact Nat.mul_le_mul_right _ hcap),t2,by omega,k1,by simp only [List.take_zero,Nat.zero_mul,List.nil_append,List.length_append,t1];omega,t2,o2,fun SI UT sp2 c5 k3 k4=>⟨ps,⟨by omega,by omega⟩,_,_,_,_,_,_,_,_,_,_,_,_,a,ha,a0,a1,a2,a3,a4,a5,fun lk dO Ob OD=>?_⟩⟩⟩
   have hD:cK 6 di lk (some ⟨Ob,0,none⟩) (j+(S.length-(j+1))) (S.take j++S.drop (j+1)):=by
    have hrw:=hE (sp:=sp2) (hE (sp:=sp) (Row.nil (R:=di) (V:=lk) (sz:=6) (vs:=[])) (hr1.le (V':=lk) fun _ _ g=>di.le g dO) (by decide)) (hr2.le (V':=lk) fun _ _ g=>di.le g dO) (by decide)
    have e:(([]:List L3)++S.take j).length=j:=by rw [List.nil_append,List.length_take];omega
    rw [e] at hrw
    have:=cK.B_ OD hrw
    have e2:(([]:List L3)++S.take j++S.drop (j+1)).length=j+(S.length-(j+1)):=by rw [List.length_append,e,List.length_drop]
    rw [e2] at this
    exact this
   have Lh:∀m∈S.take j++S.drop (j+1),m∈S:=fun m hm=>(List.mem_append.1 hm).elim List.mem_of_mem_take List.mem_of_mem_drop
   have Og:(S.take j++S.drop (j+1)).length<=1024:=by rw [List.length_append,List.length_take,List.length_drop];omega
   refine (ky (cK.q hD) (fun l hl=>JS l (Lh l hl)) (hl.le dO) QJ Rv (E.le (Jg.trans dO))).mono ?_
   rintro r oz dR hP
   obtain rfl:=hP.some (Cb Og fun l hl=>JT l (Lh l hl)) ed
   rw [pd]
   have sH:=dO.trans dR
   obtain ⟨ps,b1,p1,m1,d1,b2,p2,m2,d2,b3,p3,m3,d3,a,ha,a0,a1,a2,a3,a4,a5,hl⟩:=Dl (HK.le sH fun _ _ g=>di.le g sH) hj
   have RT:=E.le (Jg.trans sH)
   refine ⟨_,_,rfl,fun UU=>?_⟩
   refine ⟨ps,⟨by omega,by omega⟩,_,_,_,_,_,_,_,_,_,_,_,_,a,ha,a0,a1,a2,a3,a4,a5,fun qQ eu=>(ky (cK.q (HK.le (sH.trans eu) fun _ _ g=>di.le g (sH.trans eu))) JS (hl.le eu) QJ Rv (RT.le eu)).mono ?_⟩
   rintro r vD eT hP2
   obtain rfl:=hP2.some (Cb (by omega) JT) ef
   rw [pf]
   exact ⟨_,_,rfl,fJ.1,(fun hf=>by cases hf),fun _=>⟨fJ.1,(fun hf=>by cases hf),fun _=>⟨(fun hf=>by cases hf),fun _=>⟨(fun hf=>by cases hf),fun _=>⟨((j+1:Nat):Int),by (try dsimp only);omega,by and_intros<;>first|rfl|trivial,j+1,rfl,hj⟩⟩⟩⟩⟩
  ·rintro r Ho uh rfl
   exact ⟨_,rfl,fun Jk zZ=>rfl⟩
end Go.Proofs.Tryz
