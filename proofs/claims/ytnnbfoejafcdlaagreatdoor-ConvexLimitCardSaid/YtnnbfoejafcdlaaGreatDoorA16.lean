import Derived.Test.YtnnbfoejafcdlaaGreatDoorA15
import Derived.Test.YtnnbfoejafcdlaaGreatDoorA8
import Derived.Test.YtnnbfoejafcdlaaGreatDoorA9
set_option linter.unusedVariables false
open Go.IntKind (i64 u64 u32)
namespace Go.Proofs.Tryz
open Go.bo Go.eu
def nD (V:View)(v:Value)(c:Rat×Rat):Prop:=RP V v c.1 c.2
theorem nD.le {V V':View}{v:Value}{c:Rat×Rat}(h:nD V v c)(l:V.Le V'):nD V' v c:=RP.le h l
theorem nD.shape {V:View}{v:Value}{c:Rat×Rat}(h:nD V v c):∃(b:Bool)(p:OA)(n c:Nat)(p':OA)(n' c':Nat)(d:Bool)(q:OA)(m e:Nat)(q':OA)(m' e':Nat),v=.agg #[.bool b,.slice p n c,.slice p' n' c',.bool d,.slice q m e,.slice q' m' e']:=by
 obtain ⟨p,n,c,p',n',c',q,m,e,q',m',e',h,-⟩:=h
 exact ⟨_,p,n,c,p',n',c',_,q,m,e,q',m',e',h⟩
theorem fc.shape {V:View}{v:Value}{c:Rat×Rat}(h:fc V v c):∃(b:Bool)(p:OA)(n c:Nat)(p':OA)(n' c':Nat)(d:Bool)(q:OA)(m e:Nat)(q':OA)(m' e':Nat),v=.agg #[.bool b,.slice p n c,.slice p' n' c',.bool d,.slice q m e,.slice q' m' e']:=by
 obtain ⟨_,_,_,_,_,_,_,_,_,_,_,_,_,_,h,-⟩:=h
 exact ⟨_,_,_,_,_,_,_,_,_,_,_,_,_,_,h⟩
theorem A1 {R:View->Value->Rat×Rat->Prop}(sh:∀{V v c},R V v c->∃(b:Bool)(p:OA)(n c:Nat)(p':OA)(n' c':Nat)(d:Bool)(q:OA)(m e:Nat)(q':OA)(m' e':Nat),v=.agg #[.bool b,.slice p n c,.slice p' n' c',.bool d,.slice q m e,.slice q' m' e'])
  {V:View}{p:OA}{n:Nat}{al:List (Rat×Rat)}(h:cQ 6 R V p n al){i:Nat}(hi:i<al.length) :
  p.isSome=true/\∃(b1:Bool)(p1:OA)(n1 c1:Nat)(p2:OA)(n2 c2:Nat)(b2:Bool)(p3:OA)(n3 c3:Nat)(p4:OA)(n4 c4:Nat)(a:Addr),aj p (i*6)=some a/\V.at (a.add 0) (.bool b1)/\V.at (a.add 1) (.slice p1 n1 c1)/\V.at (a.add 2) (.slice p2 n2 c2)/\V.at (a.add 3) (.bool b2)/\V.at (a.add 4) (.slice p3 n3 c3)/\V.at (a.add 5) (.slice p4 n4 c4) /\
   R V (.agg #[.bool b1,.slice p1 n1 c1,.slice p2 n2 c2,.bool b2,.slice p3 n3 c3,.slice p4 n4 c4]) al[i]:=by
 obtain ⟨ad,h0,xs,h1,h2,h3⟩:=h.at_ i hi
 have h20:=h2
 obtain ⟨_,_,_,_,_,_,_,_,_,_,_,_,_,_,e⟩:=sh h2
 have e:=congrArg Array.toList (Value.agg.inj e)
 dsimp only at e
 subst e
 refine ⟨?_,_,_,_,_,_,_,_,_,_,_,_,_,_,_,ad,h0,h3 0 _ rfl,h3 1 _ rfl,h3 2 _ rfl,h3 3 _ rfl,h3 4 _ rfl,h3 5 _ rfl,h20⟩
 cases p with
 | none=>cases h0
 | some a=>rfl
theorem Fu {R:View->Value->Rat×Rat->Prop}(sh:∀{V v c},R V v c->∃(b:Bool)(p:OA)(n c:Nat)(p':OA)(n' c':Nat)(d:Bool)(q:OA)(m e:Nat)(q':OA)(m' e':Nat),v=.agg #[.bool b,.slice p n c,.slice p' n' c',.bool d,.slice q m e,.slice q' m' e'])
  {V:View}{vs:List Value}{al:List (Rat×Rat)}(h:Row 6 R V vs al){i:Nat}(hi:i<al.length) :
  ∃(b1:Bool)(p1:OA)(n1 c1:Nat)(p2:OA)(n2 c2:Nat)(b2:Bool)(p3:OA)(n3 c3:Nat)(p4:OA)(n4 c4:Nat),i*6+6<=vs.length/\(vs.drop (i*6)).take 6=[.bool b1,.slice p1 n1 c1,.slice p2 n2 c2,.bool b2,.slice p3 n3 c3,.slice p4 n4 c4] /\
   R V (.agg #[.bool b1,.slice p1 n1 c1,.slice p2 n2 c2,.bool b2,.slice p3 n3 c3,.slice p4 n4 c4]) al[i]:=by
 obtain ⟨xs,h1,h2,h3⟩:=h.at_ i hi
 have hl:=h.jz (by decide)
 have h20:=h2
 obtain ⟨_,_,_,_,_,_,_,_,_,_,_,_,_,_,e⟩:=sh h2
 have e:=congrArg Array.toList (Value.agg.inj e)
 dsimp only at e
 subst e
 refine ⟨_,_,_,_,_,_,_,_,_,_,_,_,_,_,by omega,?_,h20⟩
 apply List.ext_getElem?
 intro j
 rw [List.getElem?_take]
 split
 ·rename_i hj
  rw [List.getElem?_drop]
  exact h3 j _ (List.getElem?_eq_getElem (by show j<6;omega))▸(List.getElem?_eq_getElem (by show j<6;omega)).symm
 ·rename_i hj
  rw [List.getElem?_eq_none (by show 6<=j;omega)]
theorem wg {V:View}{p:OA}{n c:Nat}{A:List (Rat×Rat)}(h:cQ 6 nD V p n A)(hn:A.length<=1000000){k:Nat}(hs:∀x∈A,Sz k x.1/\Sz k x.2)(hk:k<=1099511627776) :
  ab prog 29 #[.slice p n c] V fun r V'=>∃q m e,r=.slice q m e/\cQ 6 fc V' q m A:=by
 obtain rfl:=h.len
 refine ui p _ c V _ ⟨fun z V'=>∃j:Nat,z.2.2.2=(j:Int)/\j<=A.length/\GR 6 fc V' z.1 z.2.1 z.2.2.1 (A.take j),fun z=>A.length-z.2.2.2.toNat,⟨(0,0,[],0),by and_intros<;>rfl,0,rfl,Nat.zero_le _,GR.nil⟩,?_⟩
 rintro ⟨z1,z2,vs,z4⟩ V1 l1 ⟨j,e4,FU,hg⟩
 dsimp only at e4 hg
 subst e4
 have zl:=hg.len
 rw [List.length_take] at zl
 refine ⟨rfl,fun hlt=>?_,fun hlt V4 l4 bk hb=>?_⟩
 ·have hlt:(j:Int)<A.length:=of_decide_eq_true hlt
  have hi:j<A.length:=by omega
  have w:i64.wrap ((j:Int)+1)=((j+1:Nat):Int):=by rw [ay (by omega)];rfl
  dsimp only
  rw [Int.toNat_natCast,w]
  obtain ⟨ps,b1,p1,n1,c1,p2,n2,c2,b2,p3,n3,c3,p4,n4,c4,a,ha,a0,a1,a2,a3,a4,a5,g⟩:=A1 nD.shape (h.le l1 fun _ _ g=>nD.le g l1) hi
  obtain ⟨s1,s2⟩:=hs _ (List.getElem_mem hi)
  refine ⟨ps,⟨by omega,by omega⟩,_,_,_,_,_,_,_,_,_,_,_,_,_,_,a,ha,a0,a1,a2,a3,a4,a5,fun V2 l2=>(yg (g.le l2) s1 s2 hk).mono ?_⟩
  rintro r V3 l3 gr
  have g0:fc V3 r A[j]:=gr
  obtain ⟨_,_,_,_,_,_,_,_,_,_,_,_,_,_,rfl⟩:=g0.shape
  refine ⟨_,_,_,_,_,_,_,_,_,_,_,_,_,_,rfl,by omega,hg.le,hg.cap,rfl,HC,fun sp c' h1 h2=>⟨(z1+1,c',_,((j+1:Nat):Int)),by dsimp only;omega,by and_intros<;>rfl,j+1,rfl,hi,?_⟩⟩
  dsimp only
  rw [List.take_add_one,List.getElem?_eq_getElem hi]
  exact (hg.mono (V':=V3) fun _ _ g=>fc.le g (l2.trans l3)).snoc rfl g0 (by decide) h1 h2
 ·have hlt:¬(j:Int)<A.length:=of_decide_eq_false hlt
  obtain rfl:j=A.length:=by omega
  rw [List.take_length] at hg
  obtain rfl:=hg.len
  exact ⟨_,_,_,rfl,cQ.fU hb (hg.row.le fun _ _ g=>fc.le g l4) (by decide) hg.le⟩
theorem qG {V:View}{p:OA}{n c:Nat}{q:OA}{m d:Nat}{A:List (Rat×Rat)}(hA:cQ 6 fc V p n A)(hB:cQ 6 fc V q m A)(hn:A.length<=1000000){k:Nat}(hs:∀x∈A,Sz k x.1/\Sz k x.2)(hk:k<=1099511627776) :
  ab prog 28 #[.slice p n c,.slice q m d] V fun r V'=>r=.bool true:=by
 obtain rfl:=hA.len
 obtain rfl:=hB.len
 refine pY p _ c q _ d V _ ⟨fun h=>by simp at h,fun _=>⟨fun z V'=>∃j:Nat,z=(j:Int)/\j<=A.length,fun z=>A.length-z.toNat,⟨0,by and_intros<;>rfl,0,rfl,Nat.zero_le _⟩,?_⟩⟩
 rintro z V2 l2 ⟨j,rfl,FU⟩
 refine ⟨rfl,fun hlt=>?_,fun hlt V6 l6=>rfl⟩
 have hlt:(j:Int)<A.length:=of_decide_eq_true hlt
 have hi:j<A.length:=by omega
 have w:i64.wrap ((j:Int)+1)=((j+1:Nat):Int):=by rw [ay (by omega)];rfl
 rw [Int.toNat_natCast,w]
 obtain ⟨ps,b1,p1,n1,c1,p2,n2,c2,b2,p3,n3,c3,p4,n4,c4,a,ha,a0,a1,a2,a3,a4,a5,g⟩:=A1 fc.shape (hA.le l2 fun _ _ g=>fc.le g l2) hi
 obtain ⟨ps',b1',KL,n1',c1',Nq,Nj,c2',b2',Nr,Nk,c3',RK,n4',Qw,a',ha',a0',a1',Qp,a3',a4',Qq,g'⟩:=A1 fc.shape (hB.le l2 fun _ _ g=>fc.le g l2) hi
 obtain ⟨s1,s2⟩:=hs _ (List.getElem_mem hi)
 refine ⟨ps,⟨by omega,by omega⟩,_,_,_,_,_,_,_,_,_,_,_,_,_,_,a,ha,a0,a1,a2,a3,a4,a5,ps',⟨by omega,by omega⟩,_,_,_,_,_,_,_,_,_,_,_,_,_,_,a',ha',a0',a1',Qp,a3',a4',Qq,fun V3 l3=>(tz (fc.le g l3) (fc.le g' l3) s1 s2 hk).mono ?_⟩
 rintro r V4 l4 rfl
 rw [decide_eq_true ⟨rfl,rfl⟩]
 exact ⟨_,rfl,(fun h=>nomatch h),fun _=>⟨((j+1:Nat):Int),by dsimp only;omega,by and_intros<;>rfl,j+1,rfl,hi⟩⟩
theorem cQ.q {V:View}{p:OA}{n:Nat}{ls:List L3}(h:cQ 6 gk V p n ls):cQ 6 nC V p n ls:=⟨h.len,fun i hi=>by
 obtain ⟨ad,h0,xs,h1,h2,h3⟩:=h.at_ i hi
 exact ⟨ad,h0,xs,h1,.inl h2,h3⟩⟩
theorem tA {V:View}{p:OA}{n c:Nat}{ls:List L3}(h:cQ 6 gk V p n ls)(hn:ls.length<=1000000)(hs:∀l∈ls,Bd l) :
  ab prog 19 #[.slice p n c] V fun r V'=>∃q m e,r=.agg #[.slice q m e]/\cQ 6 gk V' q m ls:=by
 refine sR p n c V _ fun V1 l1=>(we (h.le l1 fun _ _ g=>gk.le g l1) hn hs).mono ?_
 rintro r V2 l2 ⟨q,m,e,rfl,g⟩
 exact ⟨_,_,_,rfl,fun V3 l3=>⟨_,_,_,rfl,g.le l3 fun _ _ g=>gk.le g l3⟩⟩
theorem wh {V:View}{p:OA}{n c:Nat}{q:OA}{m d:Nat}{A:List L3}(hA:cQ 6 gk V p n A)(hB:cQ 6 gk V q m A)(hn:A.length<=1000000)(hs:∀l∈A,Bd l) :
  ab prog 46 #[.agg #[.slice p n c],.agg #[.slice q m d]] V fun r V'=>r=.bool true:=by
 refine uj p n c q m d V _ fun V1 l1=>(qF (hA.le l1 fun _ _ g=>gk.le g l1) (hB.le l1 fun _ _ g=>gk.le g l1) hn hs).mono ?_
 rintro r V2 l2 rfl
 exact ⟨_,rfl,fun V3 l3=>rfl⟩
def Bm:List L3:=[(0,1,0),(-1,0,1),(0,-1,1),(1,0,0)]
def nG:List (Rat×Rat):=[(((0:Int):Rat),((0:Int):Rat)),(((1:Int):Rat),((0:Int):Rat)),(((1:Int):Rat),((1:Int):Rat)),(((0:Int):Rat),((1:Int):Rat))]
def LS:List (Rat×Rat):=[(((1:Int):Rat),((0:Int):Rat)),(((1:Int):Rat),((1:Int):Rat)),(((0:Int):Rat),((1:Int):Rat)),(((0:Int):Rat),((0:Int):Rat))]
theorem IW:∀i:Fin 4,¬((nG.getD i (0,0)).1=(nG.getD ((i+1)%4) (0,0)).1/\(nG.getD i (0,0)).2=(nG.getD ((i+1)%4) (0,0)).2)/\zB (nG.getD i (0,0)).1 (nG.getD i (0,0)).2 (nG.getD ((i+1)%4) (0,0)).1 (nG.getD ((i+1)%4) (0,0)).2=Bm.getD i (0,0,0):=by decide +kernel
theorem IV:(bE Bm [] []).map (fun c=>(c.map Prod.fst,xN c))=some (Bm,true):=by decide +kernel
theorem IX:lk Bm=LS:=by decide +kernel
theorem G7:tw (lk Bm)*((2:Int):Rat)⁻¹=((1:Int):Rat):=by decide +kernel
theorem Fy:sY Bm=true:=by decide
theorem A7 {z:Int}(k:Nat)(hk:k≠0)(h:z.natAbs<=1):z.natAbs<2^k:=Nat.lt_of_le_of_lt h (Nat.one_lt_two_pow hk)
theorem GO {l:L3}(k:Nat)(hk:k≠0)(h:l.1.natAbs<=1/\l.2.1.natAbs<=1/\l.2.2.natAbs<=1):l.1.natAbs<2^k/\l.2.1.natAbs<2^k/\l.2.2.natAbs<2^k:=⟨A7 k hk h.1,A7 k hk h.2.1,A7 k hk h.2.2⟩
theorem Fz:∀l∈Bm,l.1.natAbs<=1/\l.2.1.natAbs<=1/\l.2.2.natAbs<=1:=by decide
theorem rV:∀l∈Bm,Bd l:=fun l hl=>GO 1000 (by decide) (Fz l hl)
theorem rW:∀x∈nG,Sz 2 x.1/\Sz 2 x.2:=by
 have h0:Sz 2 ((0:Int):Rat):=⟨by show (0:Int).natAbs<_;decide,by show (1:Nat)<_;decide⟩
 intro x hx
 simp only [nG,List.mem_cons,List.not_mem_nil,or_false] at hx
 rcases hx with rfl|rfl|rfl|rfl<;>exact ⟨by first|exact h0|exact fW,by first|exact h0|exact fW⟩
theorem FA:∀x∈LS,Sz 2 x.1/\Sz 2 x.2:=fun x hx=>rW x (by
 simp only [LS,List.mem_cons,List.not_mem_nil,or_false] at hx
 simp only [nG,List.mem_cons,List.not_mem_nil,or_false]
 rcases hx with rfl|rfl|rfl|rfl
 ·exact .inr (.inl rfl)
 ·exact .inr (.inr (.inl rfl))
 ·exact .inr (.inr (.inr rfl))
 ·exact .inl rfl)
theorem zv {R:View->Value->Rat×Rat->Prop}{V:View}{a b c d:List Value}{p q r s:Rat×Rat}(la:a.length=6)(lb:b.length=6)(lc:c.length=6)(ld:d.length=6)(ha:R V (.agg a.toArray) p)(hb:R V (.agg b.toArray) q)(hc:R V (.agg c.toArray) r)(hd:R V (.agg d.toArray) s) :
  Row 6 R V (a++(b++(c++d))) [p,q,r,s]:=by
 have h1:=lT (sp:=[]) (row_one lc hc) (row_one ld hd) (by decide)
 have h2:=lT (sp:=[]) (row_one lb hb) h1 (by decide)
 have h3:=lT (sp:=[]) (row_one la ha) h2 (by decide)
 have tk:∀{x:List Value},x.length=6->x.take (1*6)=x:=fun h=>List.take_of_length_le (by omega)
 simp only [List.length_singleton,List.length_cons,List.length_nil,Nat.zero_add,tk la,tk lb,tk lc,List.append_nil,List.cons_append,List.nil_append] at h3
 exact h3
theorem qE {V:View}:ab prog 38 #[] V fun r V'=>∃q m e,r=.slice q m e/\cQ 6 gk V' q m Bm:=by
 have xy:∀{W:View} (x y:Int),x.natAbs<=1->y.natAbs<=1->ab prog 12 #[.int .i64 x,.int .i64 y] W fun r V'=>RP V' r (x:Rat) (y:Rat):=fun x y h h'=>jt x y (by omega) (by omega) (by omega) (by omega)
 refine pV V _ fun V1 l1=>(xy 0 0 (by decide) (by decide)).mono ?_
 rintro r V2 l2 g1
 have g10:nD V2 r (((0:Int):Rat),((0:Int):Rat)):=g1
 obtain ⟨_,_,_,_,_,_,_,_,_,_,_,_,_,_,rfl⟩:=g10.shape
 refine ⟨_,_,_,_,_,_,_,_,_,_,_,_,_,_,rfl,fun V3 l3=>(xy 1 0 (by decide) (by decide)).mono ?_⟩
 rintro r V4 l4 g2
 have g20:nD V4 r (((1:Int):Rat),((0:Int):Rat)):=g2
 obtain ⟨_,_,_,_,_,_,_,_,_,_,_,_,_,_,rfl⟩:=g20.shape
 refine ⟨_,_,_,_,_,_,_,_,_,_,_,_,_,_,rfl,fun V5 l5=>(xy 1 1 (by decide) (by decide)).mono ?_⟩
 rintro r V6 l6 g3
 have mK:nD V6 r (((1:Int):Rat),((1:Int):Rat)):=g3
 obtain ⟨_,_,_,_,_,_,_,_,_,_,_,_,_,_,rfl⟩:=mK.shape
 refine ⟨_,_,_,_,_,_,_,_,_,_,_,_,_,_,rfl,fun V7 l7=>(xy 0 1 (by decide) (by decide)).mono ?_⟩
 rintro r V8 l8 g4
 have Gk:nD V8 r (((0:Int):Rat),((1:Int):Rat)):=g4
 obtain ⟨_,_,_,_,_,_,_,_,_,_,_,_,_,_,rfl⟩:=Gk.shape
 have Pq:=l7.trans l8
 have Iy:=l5.trans (l6.trans Pq)
 have hrow:Row 6 nD V8 _ nG:=zv (a:=[_,_,_,_,_,_]) (b:=[_,_,_,_,_,_]) (c:=[_,_,_,_,_,_]) (d:=[_,_,_,_,_,_]) rfl rfl rfl rfl (g10.le (l3.trans (l4.trans Iy))) (g20.le Iy) (mK.le Pq) Gk
 refine ⟨_,_,_,_,_,_,_,_,_,_,_,_,_,_,rfl,fun z V'=>∃j:Nat,z.2.2.2.1=(j:Int)/\j<=4/\Row 6 nD V' z.2.2.2.2 nG/\GR 6 gk V' z.1 z.2.1 z.2.2.1 (Bm.take j),fun z=>4-z.2.2.2.1.toNat,⟨(0,0,[],0,_),by and_intros<;>rfl,0,rfl,by omega,hrow,GR.nil⟩,?_⟩
 rintro ⟨z1,z2,vs,z4,ps⟩ V9 l9 ⟨j,e4,FU,hps,hg⟩
 dsimp only at e4 hg hps
 subst e4
 have zl:=hg.len
 rw [List.length_take] at zl
 have hq4:Bm.length=4:=rfl
 have SQ:nG.length=4:=rfl
 refine ⟨rfl,fun hlt=>?_,fun hlt pw cU bk hb=>?_⟩
 ·have hlt:(j:Int)<4:=of_decide_eq_true hlt
  have hi:j<4:=by omega
  have w:i64.wrap ((j:Int)+1)=((j+1:Nat):Int):=by rw [ay (by omega)];rfl
  have hm:(((j+1:Nat):Int)).tmod (4:Int)=(((j+1)%4:Nat):Int):=by
   have:=Int.ofNat_tmod (j+1) 4
   exact this.symm
  dsimp only
  rw [w,hm]
  simp only [Int.toNat_natCast,Nat.zero_add]
  obtain ⟨b1,p1,n1,c1,p2,n2,c2,b2,p3,n3,c3,p4,n4,c4,lp,ep,gp⟩:=Fu nD.shape hps (i:=j) (by omega)
  obtain ⟨b1',KL,n1',c1',Nq,Nj,c2',b2',Nr,Nk,c3',RK,n4',Qw,Ru,LD,QN⟩:=Fu nD.shape hps (i:=(j+1)%4) (by omega)
  obtain ⟨hne,hth⟩:=IW ⟨j,hi⟩
  have ej:nG.getD j (0,0)=nG[j]:=h_ (by omega)
  have Qz:nG.getD ((j+1)%4) (0,0)=nG[(j+1)%4]:=h_ (by omega)
  have el:Bm.getD j (0,0,0)=Bm[j]:=h_ (by omega)
  have hne:¬((nG.getD j (0,0)).1=(nG.getD ((j+1)%4) (0,0)).1/\(nG.getD j (0,0)).2=(nG.getD ((j+1)%4) (0,0)).2):=hne
  have hth:zB (nG.getD j (0,0)).1 (nG.getD j (0,0)).2 (nG.getD ((j+1)%4) (0,0)).1 (nG.getD ((j+1)%4) (0,0)).2=Bm.getD j (0,0,0):=hth
  rw [ej,Qz] at hne hth
  rw [el] at hth
  obtain ⟨s1,s2⟩:=rW _ (List.getElem_mem (show j<nG.length by omega))
  obtain ⟨s3,s4⟩:=rW _ (List.getElem_mem (show (j+1)%4<nG.length by omega))
  refine ⟨⟨by omega,by omega⟩,_,_,_,_,_,_,_,_,_,_,_,_,_,_,⟨lp,ep⟩,by decide,⟨by omega,by omega⟩,_,_,_,_,_,_,_,_,_,_,_,_,_,_,⟨Ru,LD⟩,fun kV l10=>(vx (nD.le gp l10) (nD.le QN l10) s1 s2 s3 s4 (by omega) (by omega)).mono ?_⟩
  rintro r lH bS ⟨-,hr⟩
  obtain ⟨l,rfl,gl⟩:=hr hne
  have JR:gk lH l Bm[j]:=by rw [←hth];exact gl
  obtain ⟨_,_,_,_,_,_,_,_,_,_,_,_,rfl⟩:=dA JR
  refine ⟨_,_,_,_,_,_,_,_,_,_,_,_,_,rfl,by omega,hg.le,hg.cap,rfl,GN,fun sp c' h1 h2=>⟨(z1+1,c',_,((j+1:Nat):Int),ps),by dsimp only;omega,by and_intros<;>first|rfl|trivial,j+1,rfl,by omega,hps.le fun _ _ g=>nD.le g (l10.trans bS),?_⟩⟩
  dsimp only
  rw [List.take_add_one,List.getElem?_eq_getElem (by omega)]
  exact (hg.mono (V':=lH) fun _ _ g=>gk.le g (l10.trans bS)).snoc rfl JR (by decide) h1 h2
 ·have hlt:¬(j:Int)<4:=of_decide_eq_false hlt
  obtain rfl:j=4:=by omega
  have e:=hg.len
  exact ⟨mA bk z2,z1,z2,rfl,by rw [e];exact cQ.fU hb (hg.row.le fun _ _ g=>gk.le g cU) (by decide) (by have:=hg.le;omega)⟩
set_option maxHeartbeats 1000000 in
theorem lr {V:View}{yi ye yu:Value}(E:Er V yi ye yu):ab prog 14 #[] V fun r V'=>r=.bool true:=by
 have xy:∀{W:View} (x y:Int),x.natAbs<=1->y.natAbs<=1->ab prog 12 #[.int .i64 x,.int .i64 y] W fun r V'=>RP V' r (x:Rat) (y:Rat):=fun x y h h'=>jt x y (by omega) (by omega) (by omega) (by omega)
 obtain ⟨cs,hcs,e1⟩:=Option.map_eq_some_iff.1 IV
 obtain ⟨e1,e2⟩:=Prod.mk.inj e1
 refine sJ V _ fun V1 l1=>qE.mono ?_
 rintro r V2 l2 ⟨p,n,c,rfl,hL⟩
 refine ⟨_,_,_,rfl,fun V3 l3=>(tA (hL.le l3 fun _ _ g=>gk.le g l3) (by decide) rV).mono ?_⟩
 rintro r V4 l4 ⟨q,m,e,rfl,hW⟩
 have L4:=l1.trans (l2.trans (l3.trans l4))
 refine ⟨_,_,_,rfl,fun V5 l5=>(th (cQ.q (hW.le l5 fun _ _ g=>gk.le g l5)) rV (E.le (L4.trans l5))).mono ?_⟩
 rintro r V6 l6 hA
 obtain ⟨-,hA⟩:=hA.some Fy hcs
 obtain ⟨wa,rfl,gA,sA⟩:=hA e2
 rw [e1,G7] at gA
 have QG:=gA
 obtain ⟨_,_,_,_,_,_,_,rfl⟩:=gA.shape
 have l46:=l5.trans l6
 refine ⟨_,_,_,_,_,_,_,_,rfl,fun V7 l7=>(qA (cQ.q (hW.le (l46.trans l7) fun _ _ g=>gk.le g (l46.trans l7))) rV (E.le (L4.trans (l46.trans l7)))).mono ?_⟩
 rintro r V8 l8 hC0
 obtain ⟨q1,m1,d1,rfl,hC,-⟩:=hC0.some Fy hcs
 clear hC0
 rw [e1] at hC
 have Iy:=l46.trans (l7.trans l8)
 refine ⟨_,_,_,_,rfl,fun V9 l9=>(mC (cQ.q (hW.le (Iy.trans l9) fun _ _ g=>gk.le g (Iy.trans l9))) rV (E.le (L4.trans (Iy.trans l9)))).mono ?_⟩
 rintro r kV l10 JU
 obtain ⟨q2,m2,d2,rfl,hV,-⟩:=JU.some Fy hcs
 clear JU
 rw [e1,IX] at hV
 have Cd:=l9.trans l10
 have Kk:=Iy.trans Cd
 refine ⟨_,_,_,_,rfl,kJ.1,fun _=>⟨kJ.1,fun _=>⟨kJ.1,fun _ lH bS=>?_,fun h=>by cases h⟩,fun h=>by cases h⟩,fun h=>by cases h⟩
 refine (wh (hW.le (Kk.trans bS) fun _ _ g=>gk.le g (Kk.trans bS)) (hC.le (Cd.trans bS) fun _ _ g=>gk.le g (Cd.trans bS)) (by decide) rV).mono ?_
 rintro r pw cU rfl
 have Kl:=l7.trans (l8.trans (Cd.trans (bS.trans cU)))
 refine ⟨_,rfl,fun _ vL dW=>(HZ (QG.le (Kl.trans dW)) (k:=2) fW (by omega)).mono ?_,fun h=>by cases h⟩
 rintro r oF eX gq
 have QP:=gq
 obtain ⟨_,_,_,_,_,_,rfl⟩:=gq.shape
 refine ⟨_,_,_,_,_,_,_,rfl,fun oG fl=>(mD 1 (by omega) (by omega)).mono ?_⟩
 rintro r mq dS g1
 have g10:=g1
 obtain ⟨_,_,_,_,_,_,rfl⟩:=g1.shape
 refine ⟨_,_,_,_,_,_,_,rfl,fun oH dD=>(F_ (QP.le (fl.trans (dS.trans dD))) (g10.le dD) fW fW (by omega)).mono ?_⟩
 rintro r sX eO rfl
 have EE:=dW.trans (eX.trans (fl.trans (dS.trans (dD.trans eO))))
 refine ⟨_,rfl,fun _ vM eW=>(xy 1 0 (by decide) (by decide)).mono ?_,fun h=>by
  rw [show fk ((1:Int):Rat) ((1:Int):Rat)=0 from mE.1 rfl] at h;cases h⟩
 rintro r Ai iw h1
 have h10:nD Ai r (((1:Int):Rat),((0:Int):Rat)):=h1
 obtain ⟨_,_,_,_,_,_,_,_,_,_,_,_,_,_,rfl⟩:=h10.shape
 refine ⟨_,_,_,_,_,_,_,_,_,_,_,_,_,_,rfl,fun xC gJ=>(xy 1 1 (by decide) (by decide)).mono ?_⟩
 rintro r xD kj h2
 have h20:nD xD r (((1:Int):Rat),((1:Int):Rat)):=h2
 obtain ⟨_,_,_,_,_,_,_,_,_,_,_,_,_,_,rfl⟩:=h20.shape
 refine ⟨_,_,_,_,_,_,_,_,_,_,_,_,_,_,rfl,fun Aq jX=>(xy 0 1 (by decide) (by decide)).mono ?_⟩
 rintro r Hi Cc h3
 have O4:nD Hi r (((0:Int):Rat),((1:Int):Rat)):=h3
 obtain ⟨_,_,_,_,_,_,_,_,_,_,_,_,_,_,rfl⟩:=O4.shape
 refine ⟨_,_,_,_,_,_,_,_,_,_,_,_,_,_,rfl,fun Hj tH=>(xy 0 0 (by decide) (by decide)).mono ?_⟩
 rintro r I9 Al h4
 have LJ:nD I9 r (((0:Int):Rat),((0:Int):Rat)):=h4
 obtain ⟨_,_,_,_,_,_,_,_,_,_,_,_,_,_,rfl⟩:=LJ.shape
 have EH:=tH.trans Al
 have wD:=jX.trans (Cc.trans EH)
 refine ⟨_,_,_,_,_,_,_,_,_,_,_,_,_,_,rfl,fun Jp oV bk hb=>?_⟩
 have hrow:Row 6 nD Jp _ LS:=zv (a:=[_,_,_,_,_,_]) (b:=[_,_,_,_,_,_]) (c:=[_,_,_,_,_,_]) (d:=[_,_,_,_,_,_]) rfl rfl rfl rfl (h10.le (gJ.trans (kj.trans (wD.trans oV)))) (h20.le (wD.trans oV)) (O4.le (EH.trans oV)) (LJ.le oV)
 refine (wg (cQ.E2 hb hrow) (by decide) FA (by omega)).mono ?_
 rintro r Jq FV ⟨q3,m3,d3,rfl,hP⟩
 refine ⟨_,_,_,rfl,fun _ Mg EI=>(qG (hV.le (bS.trans (cU.trans (EE.trans (eW.trans (iw.trans (gJ.trans (kj.trans (wD.trans (oV.trans (FV.trans EI)))))))))) fun _ _ g=>fc.le g (bS.trans (cU.trans (EE.trans (eW.trans (iw.trans (gJ.trans (kj.trans (wD.trans (oV.trans (FV.trans EI)))))))))) ) (hP.le EI fun _ _ g=>fc.le g EI) (by decide) FA (by omega)).mono ?_⟩
 rintro r Jr Dc rfl
 exact ⟨_,rfl,fun PN LN=>rfl⟩
theorem Ck (n:Nat):sY (List.replicate n ((0,1,0):L3))=decide (n<=1024):=by
 unfold sY
 rw [List.length_replicate,List.all_eq_true.2 fun l hl=>by rw [(List.mem_replicate.1 hl).2];decide,Bool.and_true]
theorem Bi (n:Nat):∀l∈List.replicate n ((0,1,0):L3),Bd l:=fun l hl=>by rw [(List.mem_replicate.1 hl).2];exact rV _ (List.mem_cons_self ..)
theorem kW {V:View}{yi ye yu:Value}(E:Er V yi ye yu)(more:Int)(h0:0<=more)(h1:more<256):ab prog 3 #[.int .u8 more] V fun r V'=>r=.bool true:=by
 obtain ⟨N,hN,hN1⟩:∃N:Nat,i64.wrap (924+i64.wrap more)=(N:Int)/\N<=2000:=by
  rw [ay (x:=more) (by omega),ay (by omega)]
  exact ⟨(924+more).toNat,by omega,by omega⟩
 refine kD more V _ fun V1 l1=>(jt 0 0 (by omega) (by omega) (by omega) (by omega)).mono ?_
 rintro r V2 l2 g1
 have g10:nD V2 r (((0:Int):Rat),((0:Int):Rat)):=g1
 obtain ⟨_,_,_,_,_,_,_,_,_,_,_,_,_,_,rfl⟩:=g10.shape
 refine ⟨_,_,_,_,_,_,_,_,_,_,_,_,_,_,rfl,fun V3 l3=>(jt 1 0 (by omega) (by omega) (by omega) (by omega)).mono ?_⟩
 rintro r V4 l4 g2
 have g20:nD V4 r (((1:Int):Rat),((0:Int):Rat)):=g2
 obtain ⟨_,_,_,_,_,_,_,_,_,_,_,_,_,_,rfl⟩:=g20.shape
 obtain ⟨s1,s2⟩:=rW _ (List.mem_cons_self ..)
 obtain ⟨s3,s4⟩:=rW _ (List.mem_cons_of_mem _ (List.mem_cons_self ..))
 refine ⟨_,_,_,_,_,_,_,_,_,_,_,_,_,_,rfl,fun V5 l5=>(vx (nD.le g10 (l3.trans (l4.trans l5))) (nD.le g20 l5) s1 s2 s3 s4 (by omega) (by omega)).mono ?_⟩
 rintro r V6 l6 ⟨-,hr⟩
 obtain ⟨l,rfl,gl⟩:=hr (by decide +kernel)
 have JR:gk V6 l (0,1,0):=by
  have e:zB ((0:Int):Rat) ((0:Int):Rat) ((1:Int):Rat) ((0:Int):Rat)=(0,1,0):=by decide +kernel
  rw [e] at gl
  exact gl
 obtain ⟨_,_,_,_,_,_,_,_,_,_,_,_,rfl⟩:=dA JR
 have L6:=l1.trans (l2.trans (l3.trans (l4.trans (l5.trans l6))))
 rw [hN]
 refine ⟨_,_,_,_,_,_,_,_,_,_,_,_,_,rfl,fun z V'=>∃i:Nat,z.1=(i:Int)/\i<=N/\GR 6 gk V' z.2.1 z.2.2.1 z.2.2.2 (List.replicate i (0,1,0)),fun z=>N-z.1.toNat,⟨(0,0,0,[]),by and_intros<;>rfl,0,rfl,Nat.zero_le _,GR.nil⟩,?_⟩
 rintro ⟨z1,n,c,vs⟩ V7 l7 ⟨i,e1,hi,hg⟩
 dsimp only at e1 hg
 subst e1
 have zl:=hg.len
 rw [List.length_replicate] at zl
 have L7:=L6.trans l7
 refine ⟨rfl,fun hlt V8 l8=>?_,fun hlt=>?_⟩
 ·have hlt:(i:Int)<(N:Int):=of_decide_eq_true hlt
  have w:i64.wrap ((i:Int)+1)=((i+1:Nat):Int):=by rw [ay (by omega)];rfl
  obtain ⟨d1,d2,d3⟩:=(rV _ (List.mem_cons_self ..)).af
  refine (oN (a:=0) (b:=1) (c:=0) (JR.le (l7.trans l8)) (by exact Nat.le_trans d1 (by omega)) (by exact Nat.le_trans d2 (by omega)) (by exact Nat.le_trans d3 (by omega))).mono ?_
  rintro r V9 l9 gm
  have OZ:gk V9 r (0,1,0):=gm
  obtain ⟨_,_,_,_,_,_,_,_,_,_,_,_,rfl⟩:=dA OZ
  dsimp only
  rw [w]
  refine ⟨_,_,_,_,_,_,_,_,_,_,_,_,rfl,by omega,hg.le,hg.cap,rfl,GN,fun sp c' h1 h2=>⟨(((i+1:Nat):Int),n+1,c',_),by dsimp only;omega,by and_intros<;>rfl,i+1,rfl,by omega,?_⟩⟩
  dsimp only
  rw [List.replicate_succ']
  exact (hg.mono (V':=V9) fun _ _ g=>gk.le g (l8.trans l9)).snoc rfl OZ (by decide) h1 h2
 ·have hlt:¬(i:Int)<(N:Int):=of_decide_eq_false hlt
  obtain rfl:i=N:=by omega
  have hle:=hg.le
  have hL:∀{W:View} {bk:Nat},V7.Le W->(vs≠[]->W.bm bk (.cells vs.toArray 42 (0,0)))->cQ 6 nC W (mA bk c) n (List.replicate i (0,1,0)):=fun {W bk} l hb=>by
   have:=cQ.fU (c:=c) hb (hg.row.le fun _ _ g=>gk.le g l) (by decide) (by rw [List.length_replicate];omega)
   rw [List.length_replicate] at this
   rw [zl]
   exact cQ.q this
  refine ⟨fun hc kV l10=>(lr (E.le (L7.trans l10))).mono ?_,fun hc mq dS bk hb=>?_⟩
  ·have hc:(n:Int)<=1024:=of_decide_eq_true hc
   rintro r lH bS rfl
   refine ⟨_,rfl,fun _ pw cU bk hb=>(j8 (hL (l10.trans (bS.trans cU)) hb) (Bi i)).mono ?_,fun h=>by cases h⟩
   rintro r vL dW rfl
   refine ⟨_,rfl,fun _ oF eX=>?_⟩
   rw [Ck,decide_eq_true (by omega)]
  ·have hc:¬(n:Int)<=1024:=of_decide_eq_false hc
   have ho:sY (List.replicate i ((0,1,0):L3))=false:=by rw [Ck,decide_eq_false (by omega)]
   refine (qB (hL dS hb) (Bi i) (E.le (L7.trans dS))).mono ?_
   rintro r oH dD hr
   obtain rfl:=hr.bad ho
   have HM:=L7.trans (dS.trans dD)
   refine ⟨_,_,rfl,fun J sX eO=>(lr (E.le (HM.trans eO))).mono ?_⟩
   rintro r vM eW rfl
   have EG:=eO.trans eW
   refine ⟨_,rfl,fun _ Ai iw=>(j8 ((hL dS hb).le (dD.trans (EG.trans iw)) fun _ _ g=>nC.le g (dD.trans (EG.trans iw))) (Bi i)).mono ?_,fun h=>by cases h⟩
   rintro r xC gJ rfl
   rw [ho]
   refine ⟨_,rfl,fun _=>⟨yi,⟨_,rfl,(E.le (HM.trans (EG.trans (iw.trans gJ)))).inv⟩,fun xD kj=>(nN E.si).mono ?_⟩,fun h=>by cases h⟩
   rintro r Aq jX rfl
   exact ⟨_,rfl,fun _ Hi Cc=>rfl,fun h=>by cases h⟩
end Go.Proofs.Tryz
