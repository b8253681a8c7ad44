import Derived.Test.YtnnbfoejafcdlaaGreatDoorE14
import Derived.Test.YtnnbfoejafcdlaaGreatDoorE13
import Derived.Test.YtnnbfoejafcdlaaGreatDoorE16
import Derived.Test.YtnnbfoejafcdlaaGreatDoorE8
import Derived.Test.YtnnbfoejafcdlaaGreatDoorE15
import Derived.Test.YtnnbfoejafcdlaaGreatDoorE12
import Derived.Test.YtnnbfoejafcdlaaGreatDoorE5
import Derived.Test.YtnnbfoejafcdlaaGreatDoorE7
import Derived.Test.YtnnbfoejafcdlaaGreatDoorE9
set_option linter.unusedVariables false
open Go.IntKind (i64 u64 u32)
namespace Go.Proofs.Tryz
open Go.bM Go.fB
theorem Oi {V:View}{v:Value}{q:Rat}(h:RA V v q){k:Nat}(hs:Sz k q)(hk:k<=274877906944):ab prog 43 #[v] V fun r V'=>RQ V' r q:=by
 obtain ⟨b,xs,ys,hr,-,e,hl⟩:=RE.raw (no:=false) ⟨(fun h=>nomatch h),fun _=>h⟩ (fun h=>nomatch h)
 obtain ⟨m1,m2⟩:=hl k hs
 have e:Io b xs ys=q:=e
 rw [←e]
 exact HI hr (by omega) (by omega)
theorem Pk {V:View}{vs:List Value}{ls:List L3}(h:Row 6 cd V vs ls){i:Nat}(hi:i<ls.length):∃b1 p1 n1 c1 b2 p2 n2 c2 b3 p3 n3 c3,i*6+6<=vs.length/\(vs.drop (i*6)).take 6=[Value.bool b1,.slice p1 n1 c1,.bool b2,.slice p2 n2 c2,.bool b3,.slice p3 n3 c3] /\
  cd V (.agg #[.bool b1,.slice p1 n1 c1,.bool b2,.slice p2 n2 c2,.bool b3,.slice p3 n3 c3]) ls[i]:=by
 obtain ⟨xs,h1,h2,h3⟩:=h.at_ i hi
 have hl:=h.jI (by decide)
 have h20:=h2
 obtain ⟨_,_,_,_,_,_,_,_,_,_,_,_,e⟩:=bJ h2
 have e:=congrArg Array.toList (Value.agg.inj e)
 dsimp only at e
 subst e
 refine ⟨_,_,_,_,_,_,_,_,_,_,_,_,by omega,?_,h20⟩
 apply List.ext_getElem?
 intro j
 rw [List.getElem?_take]
 split
 ·rename_i hj
  rw [List.getElem?_drop]
  exact h3 j _ (List.getElem?_eq_getElem (by show j<6;omega))▸(List.getElem?_eq_getElem (by show j<6;omega)).symm
 ·rename_i hj
  rw [List.getElem?_eq_none (by show 6<=j;omega)]
theorem AL {V:View}{p:OA}{n c:Nat}{ls:List L3}(h:cI 6 cd V p n ls)(hn:ls.length<=1000000)(hs:∀l∈ls,Bd l) :
  ab prog 71 #[.slice p n c] V fun r V'=>∃q m e,r=.slice q m e/\cI 6 cd V' q m ls:=by
 obtain rfl:=h.len
 refine yJ p _ c V _ ⟨fun z V'=>∃j:Nat,z.2.2.2=(j:Int)/\j<=ls.length/\GR 6 cd V' z.1 z.2.1 z.2.2.1 (ls.take j),fun z=>ls.length-z.2.2.2.toNat,⟨(0,0,[],0),by and_intros<;>rfl,0,rfl,Nat.zero_le _,GR.nil⟩,?_⟩
 rintro ⟨z1,z2,vs,z4⟩ V1 l1 ⟨j,e4,H7,hg⟩
 dsimp only at e4 hg
 subst e4
 have zl:=hg.len
 rw [List.length_take] at zl
 refine ⟨rfl,fun hlt=>?_,fun hlt V4 l4 bk hb=>?_⟩
 ·have hlt:(j:Int)<ls.length:=of_decide_eq_true hlt
  have hi:j<ls.length:=by omega
  obtain ⟨ad,ha,xs,-,hf,hat⟩:=(h.le l1 fun _ _ g=>cd.le g l1).at_ j hi
  have hf0:=hf
  obtain ⟨_,_,_,_,_,_,_,_,_,_,_,_,ex⟩:=bJ hf
  have ex:=congrArg Array.toList (Value.agg.inj ex)
  dsimp only at ex
  subst ex
  have w:i64.wrap ((j:Int)+1)=((j+1:Nat):Int):=by rw [ay (by omega)];rfl
  dsimp only
  rw [Int.toNat_natCast,w]
  obtain ⟨d1,d2,d3⟩:=(hs _ (List.getElem_mem hi)).ag
  refine ⟨mi ha,⟨by omega,by omega⟩,_,_,_,_,_,_,_,_,_,_,_,_,ad,ha,hat 0 _ rfl,hat 1 _ rfl,hat 2 _ rfl,hat 3 _ rfl,hat 4 _ rfl,hat 5 _ rfl,fun V2 l2=>(rQ (hf0.le l2) (by omega) (by omega) (by omega)).mono ?_⟩
  rintro r V3 l3 g
  have g0:cd V3 r ls[j]:=g
  obtain ⟨_,_,_,_,_,_,_,_,_,_,_,_,rfl⟩:=bJ g0
  refine ⟨_,_,_,_,_,_,_,_,_,_,_,_,rfl,by omega,hg.le,hg.cap,rfl,Ib,fun sp c' h1 h2=>⟨(z1+1,c',_,((j+1:Nat):Int)),by dsimp only;omega,by and_intros<;>rfl,j+1,rfl,hi,?_⟩⟩
  dsimp only
  rw [List.take_add_one,List.getElem?_eq_getElem hi]
  exact (hg.mono (V':=V3) fun _ _ g=>cd.le g (l2.trans l3)).snoc rfl g0 (by decide) h1 h2
 ·have hlt:¬(j:Int)<ls.length:=of_decide_eq_false hlt
  obtain rfl:j=ls.length:=by omega
  rw [List.take_length] at hg
  obtain rfl:=hg.len
  exact ⟨_,_,_,rfl,cI.fQ hb (hg.row.le fun _ _ g=>cd.le g l4) (by decide) hg.le⟩
theorem uH {V:View}{p:OA}{n c:Nat}{q:OA}{m d:Nat}{A:List L3}(hA:cI 6 cd V p n A)(hB:cI 6 cd V q m A)(hn:A.length<=1000000)(hs:∀l∈A,Bd l) :
  ab prog 111 #[.slice p n c,.slice q m d] V fun r V'=>r=.bool true:=by
 obtain rfl:=hA.len
 obtain rfl:=hB.len
 refine tB p _ c q _ d V _ ⟨fun h=>by simp at h,fun _=>⟨fun z V'=>∃j:Nat,z=(j:Int)/\j<=A.length,fun z=>A.length-z.toNat,⟨0,by and_intros<;>rfl,0,rfl,Nat.zero_le _⟩,?_⟩⟩
 rintro z V2 l2 ⟨j,rfl,H7⟩
 refine ⟨rfl,fun hlt=>?_,fun hlt V6 l6=>rfl⟩
 have hlt:(j:Int)<A.length:=of_decide_eq_true hlt
 have hi:j<A.length:=by omega
 obtain ⟨ad,ha,xs,-,hf,hat⟩:=(hA.le l2 fun _ _ g=>cd.le g l2).at_ j hi
 obtain ⟨TD,ha',ys,-,hf',hat'⟩:=(hB.le l2 fun _ _ g=>cd.le g l2).at_ j hi
 have hf0:=hf
 have UH:=hf'
 obtain ⟨_,_,_,_,_,_,_,_,_,_,_,_,ex⟩:=bJ hf
 obtain ⟨_,_,_,_,_,_,_,_,_,_,_,_,ey⟩:=bJ hf'
 have ex:=congrArg Array.toList (Value.agg.inj ex)
 have ey:=congrArg Array.toList (Value.agg.inj ey)
 dsimp only at ex ey
 subst ex ey
 have w:i64.wrap ((j:Int)+1)=((j+1:Nat):Int):=by rw [ay (by omega)];rfl
 rw [Int.toNat_natCast,w]
 obtain ⟨d1,d2,d3⟩:=(hs _ (List.getElem_mem hi)).ag
 refine ⟨mi ha,⟨by omega,by omega⟩,_,_,_,_,_,_,_,_,_,_,_,_,ad,ha,hat 0 _ rfl,hat 1 _ rfl,hat 2 _ rfl,hat 3 _ rfl,hat 4 _ rfl,hat 5 _ rfl,mi ha',⟨by omega,by omega⟩,_,_,_,_,_,_,_,_,_,_,_,_,TD,ha',hat' 0 _ rfl,hat' 1 _ rfl,hat' 2 _ rfl,hat' 3 _ rfl,hat' 4 _ rfl,hat' 5 _ rfl,fun V3 l3=>(xG (hf0.le l3) (UH.le l3) (by omega) (by omega) (by omega)).mono ?_⟩
 rintro r V4 l4 rfl
 rw [decide_eq_true ⟨rfl,rfl,rfl⟩]
 exact ⟨_,rfl,(fun h=>nomatch h),fun _=>⟨((j+1:Nat):Int),by dsimp only;omega,by and_intros<;>rfl,j+1,rfl,hi⟩⟩
def tL (V:View)(v:Value)(c:Rat×Rat):Prop:=RP V v c.1 c.2
theorem tL.le {V V':View}{v:Value}{c:Rat×Rat}(h:tL V v c)(l:V.Le V'):tL V' v c:=RP.le h l
theorem tL.shape {V:View}{v:Value}{c:Rat×Rat}(h:tL V v c):∃(b:Bool)(p:OA)(n c:Nat)(p':OA)(n' c':Nat)(d:Bool)(q:OA)(m e:Nat)(q':OA)(m' e':Nat),v=.agg #[.bool b,.slice p n c,.slice p' n' c',.bool d,.slice q m e,.slice q' m' e']:=by
 obtain ⟨p,n,c,p',n',c',q,m,e,q',m',e',h,-⟩:=h
 exact ⟨_,p,n,c,p',n',c',_,q,m,e,q',m',e',h⟩
theorem fY.shape {V:View}{v:Value}{c:Rat×Rat}(h:fY V v c):∃(b:Bool)(p:OA)(n c:Nat)(p':OA)(n' c':Nat)(d:Bool)(q:OA)(m e:Nat)(q':OA)(m' e':Nat),v=.agg #[.bool b,.slice p n c,.slice p' n' c',.bool d,.slice q m e,.slice q' m' e']:=by
 obtain ⟨_,_,_,_,_,_,_,_,_,_,_,_,_,_,h,-⟩:=h
 exact ⟨_,_,_,_,_,_,_,_,_,_,_,_,_,_,h⟩
theorem Fu {R:View->Value->Rat×Rat->Prop}(sh:∀{V v c},R V v c->∃(b:Bool)(p:OA)(n c:Nat)(p':OA)(n' c':Nat)(d:Bool)(q:OA)(m e:Nat)(q':OA)(m' e':Nat),v=.agg #[.bool b,.slice p n c,.slice p' n' c',.bool d,.slice q m e,.slice q' m' e'])
  {V:View}{p:OA}{n:Nat}{al:List (Rat×Rat)}(h:cI 6 R V p n al){i:Nat}(hi:i<al.length) :
  p.isSome=true/\∃(b1:Bool)(p1:OA)(n1 c1:Nat)(p2:OA)(n2 c2:Nat)(b2:Bool)(p3:OA)(n3 c3:Nat)(p4:OA)(n4 c4:Nat)(a:Addr),ah p (i*6)=some a/\V.at (a.add 0) (.bool b1)/\V.at (a.add 1) (.slice p1 n1 c1)/\V.at (a.add 2) (.slice p2 n2 c2)/\V.at (a.add 3) (.bool b2)/\V.at (a.add 4) (.slice p3 n3 c3)/\V.at (a.add 5) (.slice p4 n4 c4) /\
   R V (.agg #[.bool b1,.slice p1 n1 c1,.slice p2 n2 c2,.bool b2,.slice p3 n3 c3,.slice p4 n4 c4]) al[i]:=by
 obtain ⟨ad,h0,xs,h1,h2,h3⟩:=h.at_ i hi
 have h20:=h2
 obtain ⟨_,_,_,_,_,_,_,_,_,_,_,_,_,_,e⟩:=sh h2
 have e:=congrArg Array.toList (Value.agg.inj e)
 dsimp only at e
 subst e
 refine ⟨?_,_,_,_,_,_,_,_,_,_,_,_,_,_,_,ad,h0,h3 0 _ rfl,h3 1 _ rfl,h3 2 _ rfl,h3 3 _ rfl,h3 4 _ rfl,h3 5 _ rfl,h20⟩
 cases p with
 | none=>cases h0
 | some a=>rfl
theorem KJ {R:View->Value->Rat×Rat->Prop}(sh:∀{V v c},R V v c->∃(b:Bool)(p:OA)(n c:Nat)(p':OA)(n' c':Nat)(d:Bool)(q:OA)(m e:Nat)(q':OA)(m' e':Nat),v=.agg #[.bool b,.slice p n c,.slice p' n' c',.bool d,.slice q m e,.slice q' m' e'])
  {V:View}{vs:List Value}{al:List (Rat×Rat)}(h:Row 6 R V vs al){i:Nat}(hi:i<al.length) :
  ∃(b1:Bool)(p1:OA)(n1 c1:Nat)(p2:OA)(n2 c2:Nat)(b2:Bool)(p3:OA)(n3 c3:Nat)(p4:OA)(n4 c4:Nat),i*6+6<=vs.length/\(vs.drop (i*6)).take 6=[.bool b1,.slice p1 n1 c1,.slice p2 n2 c2,.bool b2,.slice p3 n3 c3,.slice p4 n4 c4] /\
   R V (.agg #[.bool b1,.slice p1 n1 c1,.slice p2 n2 c2,.bool b2,.slice p3 n3 c3,.slice p4 n4 c4]) al[i]:=by
 obtain ⟨xs,h1,h2,h3⟩:=h.at_ i hi
 have hl:=h.jI (by decide)
 have h20:=h2
 obtain ⟨_,_,_,_,_,_,_,_,_,_,_,_,_,_,e⟩:=sh h2
 have e:=congrArg Array.toList (Value.agg.inj e)
 dsimp only at e
 subst e
 refine ⟨_,_,_,_,_,_,_,_,_,_,_,_,_,_,by omega,?_,h20⟩
 apply List.ext_getElem?
 intro j
 rw [List.getElem?_take]
 split
 ·rename_i hj
  rw [List.getElem?_drop]
  exact h3 j _ (List.getElem?_eq_getElem (by show j<6;omega))▸(List.getElem?_eq_getElem (by show j<6;omega)).symm
 ·rename_i hj
  rw [List.getElem?_eq_none (by show 6<=j;omega)]
theorem AM {V:View}{p:OA}{n c:Nat}{A:List (Rat×Rat)}(h:cI 6 tL V p n A)(hn:A.length<=1000000){k:Nat}(hs:∀x∈A,Sz k x.1/\Sz k x.2)(hk:k<=1099511627776) :
  ab prog 29 #[.slice p n c] V fun r V'=>∃q m e,r=.slice q m e/\cI 6 fY V' q m A:=by
 obtain rfl:=h.len
 refine yK p _ c V _ ⟨fun z V'=>∃j:Nat,z.2.2.2=(j:Int)/\j<=A.length/\GR 6 fY V' z.1 z.2.1 z.2.2.1 (A.take j),fun z=>A.length-z.2.2.2.toNat,⟨(0,0,[],0),by and_intros<;>rfl,0,rfl,Nat.zero_le _,GR.nil⟩,?_⟩
 rintro ⟨z1,z2,vs,z4⟩ V1 l1 ⟨j,e4,H7,hg⟩
 dsimp only at e4 hg
 subst e4
 have zl:=hg.len
 rw [List.length_take] at zl
 refine ⟨rfl,fun hlt=>?_,fun hlt V4 l4 bk hb=>?_⟩
 ·have hlt:(j:Int)<A.length:=of_decide_eq_true hlt
  have hi:j<A.length:=by omega
  have w:i64.wrap ((j:Int)+1)=((j+1:Nat):Int):=by rw [ay (by omega)];rfl
  dsimp only
  rw [Int.toNat_natCast,w]
  obtain ⟨ps,b1,p1,n1,c1,p2,n2,c2,b2,p3,n3,c3,p4,n4,c4,a,ha,a0,a1,a2,a3,a4,a5,g⟩:=Fu tL.shape (h.le l1 fun _ _ g=>tL.le g l1) hi
  obtain ⟨s1,s2⟩:=hs _ (List.getElem_mem hi)
  refine ⟨ps,⟨by omega,by omega⟩,_,_,_,_,_,_,_,_,_,_,_,_,_,_,a,ha,a0,a1,a2,a3,a4,a5,fun V2 l2=>(rR (g.le l2) s1 s2 hk).mono ?_⟩
  rintro r V3 l3 gr
  have g0:fY V3 r A[j]:=gr
  obtain ⟨_,_,_,_,_,_,_,_,_,_,_,_,_,_,rfl⟩:=g0.shape
  refine ⟨_,_,_,_,_,_,_,_,_,_,_,_,_,_,rfl,by omega,hg.le,hg.cap,rfl,NJ,fun sp c' h1 h2=>⟨(z1+1,c',_,((j+1:Nat):Int)),by dsimp only;omega,by and_intros<;>rfl,j+1,rfl,hi,?_⟩⟩
  dsimp only
  rw [List.take_add_one,List.getElem?_eq_getElem hi]
  exact (hg.mono (V':=V3) fun _ _ g=>fY.le g (l2.trans l3)).snoc rfl g0 (by decide) h1 h2
 ·have hlt:¬(j:Int)<A.length:=of_decide_eq_false hlt
  obtain rfl:j=A.length:=by omega
  rw [List.take_length] at hg
  obtain rfl:=hg.len
  exact ⟨_,_,_,rfl,cI.fQ hb (hg.row.le fun _ _ g=>fY.le g l4) (by decide) hg.le⟩
theorem uJ {V:View}{p:OA}{n c:Nat}{q:OA}{m d:Nat}{A:List (Rat×Rat)}(hA:cI 6 fY V p n A)(hB:cI 6 fY V q m A)(hn:A.length<=1000000){k:Nat}(hs:∀x∈A,Sz k x.1/\Sz k x.2)(hk:k<=1099511627776) :
  ab prog 28 #[.slice p n c,.slice q m d] V fun r V'=>r=.bool true:=by
 obtain rfl:=hA.len
 obtain rfl:=hB.len
 refine tC p _ c q _ d V _ ⟨fun h=>by simp at h,fun _=>⟨fun z V'=>∃j:Nat,z=(j:Int)/\j<=A.length,fun z=>A.length-z.toNat,⟨0,by and_intros<;>rfl,0,rfl,Nat.zero_le _⟩,?_⟩⟩
 rintro z V2 l2 ⟨j,rfl,H7⟩
 refine ⟨rfl,fun hlt=>?_,fun hlt V6 l6=>rfl⟩
 have hlt:(j:Int)<A.length:=of_decide_eq_true hlt
 have hi:j<A.length:=by omega
 have w:i64.wrap ((j:Int)+1)=((j+1:Nat):Int):=by rw [ay (by omega)];rfl
 rw [Int.toNat_natCast,w]
 obtain ⟨ps,b1,p1,n1,c1,p2,n2,c2,b2,p3,n3,c3,p4,n4,c4,a,ha,a0,a1,a2,a3,a4,a5,g⟩:=Fu fY.shape (hA.le l2 fun _ _ g=>fY.le g l2) hi
 obtain ⟨ps',b1',RH,n1',c1',Vx,Vp,c2',b2',Vy,Vq,c3',p4',n4',ZC,a',ha',a0',a1',Zs,a3',a4',Zt,g'⟩:=Fu fY.shape (hB.le l2 fun _ _ g=>fY.le g l2) hi
 obtain ⟨s1,s2⟩:=hs _ (List.getElem_mem hi)
 refine ⟨ps,⟨by omega,by omega⟩,_,_,_,_,_,_,_,_,_,_,_,_,_,_,a,ha,a0,a1,a2,a3,a4,a5,ps',⟨by omega,by omega⟩,_,_,_,_,_,_,_,_,_,_,_,_,_,_,a',ha',a0',a1',Zs,a3',a4',Zt,fun V3 l3=>(xH (fY.le g l3) (fY.le g' l3) s1 s2 hk).mono ?_⟩
 rintro r V4 l4 rfl
 rw [decide_eq_true ⟨rfl,rfl⟩]
 exact ⟨_,rfl,(fun h=>nomatch h),fun _=>⟨((j+1:Nat):Int),by dsimp only;omega,by and_intros<;>rfl,j+1,rfl,hi⟩⟩
theorem cI.q {V:View}{p:OA}{n:Nat}{ls:List L3}(h:cI 6 cd V p n ls):cI 6 oO V p n ls:=⟨h.len,fun i hi=>by
 obtain ⟨ad,h0,xs,h1,h2,h3⟩:=h.at_ i hi
 exact ⟨ad,h0,xs,h1,.inl h2,h3⟩⟩
theorem nK {V:View}{p:OA}{n c:Nat}{ls:List L3}(h:cI 6 cd V p n ls)(hn:ls.length<=1000000)(hs:∀l∈ls,Bd l) :
  ab prog 19 #[.slice p n c] V fun r V'=>∃q m e,r=.agg #[.slice q m e]/\cI 6 cd V' q m ls:=by
 refine w_ p n c V _ fun V1 l1=>(AL (h.le l1 fun _ _ g=>cd.le g l1) hn hs).mono ?_
 rintro r V2 l2 ⟨q,m,e,rfl,g⟩
 exact ⟨_,_,_,rfl,fun V3 l3=>⟨_,_,_,rfl,g.le l3 fun _ _ g=>cd.le g l3⟩⟩
theorem AP {V:View}{p:OA}{n c:Nat}{q:OA}{m d:Nat}{A:List L3}(hA:cI 6 cd V p n A)(hB:cI 6 cd V q m A)(hn:A.length<=1000000)(hs:∀l∈A,Bd l) :
  ab prog 46 #[.agg #[.slice p n c],.agg #[.slice q m d]] V fun r V'=>r=.bool true:=by
 refine yM p n c q m d V _ fun V1 l1=>(uH (hA.le l1 fun _ _ g=>cd.le g l1) (hB.le l1 fun _ _ g=>cd.le g l1) hn hs).mono ?_
 rintro r V2 l2 rfl
 exact ⟨_,rfl,fun V3 l3=>rfl⟩
def Ey:List L3:=[(0,1,0),(-1,0,1),(0,-1,1),(1,0,0)]
def qo:List (Rat×Rat):=[(((0:Int):Rat),((0:Int):Rat)),(((1:Int):Rat),((0:Int):Rat)),(((1:Int):Rat),((1:Int):Rat)),(((0:Int):Rat),((1:Int):Rat))]
def S9:List (Rat×Rat):=[(((1:Int):Rat),((0:Int):Rat)),(((1:Int):Rat),((1:Int):Rat)),(((0:Int):Rat),((1:Int):Rat)),(((0:Int):Rat),((0:Int):Rat))]
theorem Pp:∀i:Fin 4,¬((qo.getD i (0,0)).1=(qo.getD ((i+1)%4) (0,0)).1/\(qo.getD i (0,0)).2=(qo.getD ((i+1)%4) (0,0)).2)/\FV (qo.getD i (0,0)).1 (qo.getD i (0,0)).2 (qo.getD ((i+1)%4) (0,0)).1 (qo.getD ((i+1)%4) (0,0)).2=Ey.getD i (0,0,0):=by decide +kernel
theorem Po:(bq Ey [] []).map (fun c=>(c.map Prod.fst,Co c))=some (Ey,true):=by decide +kernel
theorem Pq:nD Ey=S9:=by decide +kernel
theorem MQ:tw (nD Ey)*((2:Int):Rat)⁻¹=((1:Int):Rat):=by decide +kernel
theorem KP:xT Ey=true:=by decide
theorem FA {z:Int}(k:Nat)(hk:k≠0)(h:z.natAbs<=1):z.natAbs<2^k:=Nat.lt_of_le_of_lt h (Nat.one_lt_two_pow hk)
theorem Mq {l:L3}(k:Nat)(hk:k≠0)(h:l.1.natAbs<=1/\l.2.1.natAbs<=1/\l.2.2.natAbs<=1):l.1.natAbs<2^k/\l.2.1.natAbs<2^k/\l.2.2.natAbs<2^k:=⟨FA k hk h.1,FA k hk h.2.1,FA k hk h.2.2⟩
theorem KQ:∀l∈Ey,l.1.natAbs<=1/\l.2.1.natAbs<=1/\l.2.2.natAbs<=1:=by decide
theorem DS:∀l∈Ey,Bd l:=fun l hl=>Mq 1000 (by decide) (KQ l hl)
theorem FQ:∀x∈qo,Sz 2 x.1/\Sz 2 x.2:=by
 have h0:Sz 2 ((0:Int):Rat):=⟨by show (0:Int).natAbs<_;decide,by show (1:Nat)<_;decide⟩
 intro x hx
 simp only [qo,List.mem_cons,List.not_mem_nil,or_false] at hx
 rcases hx with rfl|rfl|rfl|rfl<;>exact ⟨by first|exact h0|exact fS,by first|exact h0|exact fS⟩
theorem KR:∀x∈S9,Sz 2 x.1/\Sz 2 x.2:=fun x hx=>FQ x (by
 simp only [S9,List.mem_cons,List.not_mem_nil,or_false] at hx
 simp only [qo,List.mem_cons,List.not_mem_nil,or_false]
 rcases hx with rfl|rfl|rfl|rfl
 ·exact .inr (.inl rfl)
 ·exact .inr (.inr (.inl rfl))
 ·exact .inr (.inr (.inr rfl))
 ·exact .inl rfl)
theorem DM {R:View->Value->Rat×Rat->Prop}{V:View}{a b c d:List Value}{p q r s:Rat×Rat}(la:a.length=6)(lb:b.length=6)(lc:c.length=6)(ld:d.length=6)(ha:R V (.agg a.toArray) p)(hb:R V (.agg b.toArray) q)(hc:R V (.agg c.toArray) r)(hd:R V (.agg d.toArray) s) :
  Row 6 R V (a++(b++(c++d))) [p,q,r,s]:=by
 have h1:=iW (sp:=[]) (row_one lc hc) (row_one ld hd) (by decide)
 have h2:=iW (sp:=[]) (row_one lb hb) h1 (by decide)
 have h3:=iW (sp:=[]) (row_one la ha) h2 (by decide)
 have tk:∀{x:List Value},x.length=6->x.take (1*6)=x:=fun h=>List.take_of_length_le (by omega)
 simp only [List.length_singleton,List.length_cons,List.length_nil,Nat.zero_add,tk la,tk lb,tk lc,List.append_nil,List.cons_append,List.nil_append] at h3
 exact h3
theorem uE {V:View}:ab prog 38 #[] V fun r V'=>∃(bk n c:Nat)(vs:List Value),r=.slice (mA bk c) n c/\(vs≠[]->V'.w.heap[bk]?=some (.cells vs.toArray 27 (0,0)))/\(vs≠[]->V.w.heap.size<=bk)/\GR 6 cd (V'.jv (vs≠[]) bk) n c vs Ey:=by
 have xy:∀{W:View} (x y:Int),x.natAbs<=1->y.natAbs<=1->ab prog 12 #[.int .i64 x,.int .i64 y] W fun r V'=>RP V' r (x:Rat) (y:Rat):=fun x y h h'=>kU x y (by omega) (by omega) (by omega) (by omega)
 refine tz V _ fun V1 l1=>(xy 0 0 (by decide) (by decide)).mono ?_
 rintro r V2 l2 g1
 have g10:tL V2 r (((0:Int):Rat),((0:Int):Rat)):=g1
 obtain ⟨_,_,_,_,_,_,_,_,_,_,_,_,_,_,rfl⟩:=g10.shape
 refine ⟨_,_,_,_,_,_,_,_,_,_,_,_,_,_,rfl,fun V3 l3=>(xy 1 0 (by decide) (by decide)).mono ?_⟩
 rintro r V4 l4 g2
 have g20:tL V4 r (((1:Int):Rat),((0:Int):Rat)):=g2
 obtain ⟨_,_,_,_,_,_,_,_,_,_,_,_,_,_,rfl⟩:=g20.shape
 refine ⟨_,_,_,_,_,_,_,_,_,_,_,_,_,_,rfl,fun V5 l5=>(xy 1 1 (by decide) (by decide)).mono ?_⟩
 rintro r V6 l6 g3
 have kE:tL V6 r (((1:Int):Rat),((1:Int):Rat)):=g3
 obtain ⟨_,_,_,_,_,_,_,_,_,_,_,_,_,_,rfl⟩:=kE.shape
 refine ⟨_,_,_,_,_,_,_,_,_,_,_,_,_,_,rfl,fun V7 l7=>(xy 0 1 (by decide) (by decide)).mono ?_⟩
 rintro r V8 l8 g4
 have E7:tL V8 r (((0:Int):Rat),((1:Int):Rat)):=g4
 obtain ⟨_,_,_,_,_,_,_,_,_,_,_,_,_,_,rfl⟩:=E7.shape
 have Yj:=l7.trans l8
 have Mh:=l5.trans (l6.trans Yj)
 have hrow:Row 6 tL V8 _ qo:=DM (a:=[_,_,_,_,_,_]) (b:=[_,_,_,_,_,_]) (c:=[_,_,_,_,_,_]) (d:=[_,_,_,_,_,_]) rfl rfl rfl rfl (g10.le (l3.trans (l4.trans Mh))) (g20.le Mh) (kE.le Yj) E7
 refine ⟨_,_,_,_,_,_,_,_,_,_,_,_,_,_,rfl,fun z V'=>∃j:Nat,z.2.2.2.1=(j:Int)/\j<=4/\Row 6 tL V' z.2.2.2.2 qo/\GR 6 cd V' z.1 z.2.1 z.2.2.1 (Ey.take j),fun z=>4-z.2.2.2.1.toNat,⟨(0,0,[],0,_),by and_intros<;>rfl,0,rfl,by omega,hrow,GR.nil⟩,?_⟩
 rintro ⟨z1,z2,vs,z4,ps⟩ V9 l9 ⟨j,e4,H7,hps,hg⟩
 dsimp only at e4 hg hps
 subst e4
 have zl:=hg.len
 rw [List.length_take] at zl
 have hq4:Ey.length=4:=rfl
 have hp4:qo.length=4:=rfl
 refine ⟨rfl,fun hlt=>?_,fun hlt lS bk cg hb hfr=>?_⟩
 ·have hlt:(j:Int)<4:=of_decide_eq_true hlt
  have hi:j<4:=by omega
  have w:i64.wrap ((j:Int)+1)=((j+1:Nat):Int):=by rw [ay (by omega)];rfl
  have hm:(((j+1:Nat):Int)).tmod (4:Int)=(((j+1)%4:Nat):Int):=by
   have:=Int.ofNat_tmod (j+1) 4
   exact this.symm
  dsimp only
  rw [w,hm]
  simp only [Int.toNat_natCast,Nat.zero_add]
  obtain ⟨b1,p1,n1,c1,p2,n2,c2,b2,p3,n3,c3,p4,n4,c4,lp,ep,gp⟩:=KJ tL.shape hps (i:=j) (by omega)
  obtain ⟨b1',RH,n1',c1',Vx,Vp,c2',b2',Vy,Vq,c3',p4',n4',ZC,lp',SN,ZQ⟩:=KJ tL.shape hps (i:=(j+1)%4) (by omega)
  obtain ⟨hne,hth⟩:=Pp ⟨j,hi⟩
  have ej:qo.getD j (0,0)=qo[j]:=ju (by omega)
  have ZG:qo.getD ((j+1)%4) (0,0)=qo[(j+1)%4]:=ju (by omega)
  have el:Ey.getD j (0,0,0)=Ey[j]:=ju (by omega)
  have hne:¬((qo.getD j (0,0)).1=(qo.getD ((j+1)%4) (0,0)).1/\(qo.getD j (0,0)).2=(qo.getD ((j+1)%4) (0,0)).2):=hne
  have hth:FV (qo.getD j (0,0)).1 (qo.getD j (0,0)).2 (qo.getD ((j+1)%4) (0,0)).1 (qo.getD ((j+1)%4) (0,0)).2=Ey.getD j (0,0,0):=hth
  rw [ej,ZG] at hne hth
  rw [el] at hth
  obtain ⟨s1,s2⟩:=FQ _ (List.getElem_mem (show j<qo.length by omega))
  obtain ⟨s3,s4⟩:=FQ _ (List.getElem_mem (show (j+1)%4<qo.length by omega))
  refine ⟨⟨by omega,by omega⟩,_,_,_,_,_,_,_,_,_,_,_,_,_,_,⟨lp,ep⟩,by decide,⟨by omega,by omega⟩,_,_,_,_,_,_,_,_,_,_,_,_,_,_,⟨lp',SN⟩,fun jk l10=>(Il (tL.le gp l10) (tL.le ZQ l10) s1 s2 s3 s4 (by omega) (by omega)).mono ?_⟩
  rintro r jh bK ⟨-,hr⟩
  obtain ⟨l,rfl,gl⟩:=hr hne
  have SP:cd jh l Ey[j]:=by rw [←hth];exact gl
  obtain ⟨_,_,_,_,_,_,_,_,_,_,_,_,rfl⟩:=bJ SP
  refine ⟨_,_,_,_,_,_,_,_,_,_,_,_,_,rfl,by omega,hg.le,hg.cap,rfl,Ib,fun sp c' h1 h2=>⟨(z1+1,c',_,((j+1:Nat):Int),ps),by dsimp only;omega,by and_intros<;>first|rfl|trivial,j+1,rfl,by omega,hps.le fun _ _ g=>tL.le g (l10.trans bK),?_⟩⟩
  dsimp only
  rw [List.take_add_one,List.getElem?_eq_getElem (by omega)]
  exact (hg.mono (V':=jh) fun _ _ g=>cd.le g (l10.trans bK)).snoc rfl SP (by decide) h1 h2
 ·have hlt:¬(j:Int)<4:=of_decide_eq_false hlt
  obtain rfl:j=4:=by omega
  exact ⟨bk,z1,z2,vs,rfl,hb,fun h=>(hfr h).elim id False.elim,hg.mono fun _ _ g=>cd.le g cg⟩
set_option maxHeartbeats 1000000 in
theorem nH {V:View}{yi ye yu:Value}(E:Er V yi ye yu):ab prog 14 #[] V fun r V'=>r=.bool true:=by
 have xy:∀{W:View} (x y:Int),x.natAbs<=1->y.natAbs<=1->ab prog 12 #[.int .i64 x,.int .i64 y] W fun r V'=>RP V' r (x:Rat) (y:Rat):=fun x y h h'=>kU x y (by omega) (by omega) (by omega) (by omega)
 obtain ⟨cs,hcs,e1⟩:=Option.map_eq_some_iff.1 Po
 obtain ⟨e1,e2⟩:=Prod.mk.inj e1
 refine wL V _ fun V1 l1=>uE.mono ?_
 rintro r V2 l2 ⟨bm,n,c,vm,rfl,f1,f2,hg⟩
 refine ⟨bm,vm,f1,fun h=>.inl (f2 h),none,n,c,rfl,fun V3 l3 bk hbk=>?_⟩
 have cK:V1.Le V3:=(vy l2 fun h=>.inl (f2 h)).trans l3
 have hL:cI 6 cd V3 (mA bk c) n Ey:=by
  rw [hg.len]
  exact cI.fQ hbk (hg.row.le fun _ _ g=>cd.le g fun b o h=>l3 b o h) (by decide) (by have:=hg.le;have:=hg.len;omega)
 refine (nK hL (by decide) DS).mono ?_
 rintro r V4 l4 ⟨q,m,e,rfl,hW⟩
 have L4:=l1.trans (cK.trans l4)
 refine ⟨_,_,_,rfl,fun J V5 l5=>(xr (cI.q (hW.le l5 fun _ _ g=>cd.le g l5)) DS (E.le (L4.trans l5))).mono ?_⟩
 rintro r V6 l6 hA
 obtain ⟨-,hA⟩:=hA.some KP hcs
 obtain ⟨wa,rfl,gA,sA⟩:=hA e2
 rw [e1,MQ] at gA
 have T6:=gA
 obtain ⟨_,_,_,_,_,_,_,rfl⟩:=gA.shape
 have l46:=l5.trans l6
 refine ⟨_,_,_,_,_,_,_,_,rfl,fun V7 l7=>(uz (cI.q (hW.le (l46.trans l7) fun _ _ g=>cd.le g (l46.trans l7))) DS (E.le (L4.trans (l46.trans l7)))).mono ?_⟩
 rintro r V8 l8 hC0
 obtain ⟨q1,m1,d1,rfl,hC,-⟩:=hC0.some KP hcs
 clear hC0
 rw [e1] at hC
 have Mh:=l46.trans (l7.trans l8)
 refine ⟨_,_,_,_,rfl,fun V9 l9=>(oZ (cI.q (hW.le (Mh.trans l9) fun _ _ g=>cd.le g (Mh.trans l9))) DS (E.le (L4.trans (Mh.trans l9)))).mono ?_⟩
 rintro r jk l10 QB
 obtain ⟨q2,m2,d2,rfl,hV,-⟩:=QB.some KP hcs
 clear QB
 rw [e1,Pq] at hV
 have GS:=l9.trans l10
 have Q_:=Mh.trans GS
 refine ⟨_,_,_,_,rfl,ij.1,fun _=>⟨ij.1,fun _=>⟨ij.1,fun _ jh bK=>?_,fun h=>by cases h⟩,fun h=>by cases h⟩,fun h=>by cases h⟩
 refine (AP (hW.le (Q_.trans bK) fun _ _ g=>cd.le g (Q_.trans bK)) (hC.le (GS.trans bK) fun _ _ g=>cd.le g (GS.trans bK)) (by decide) DS).mono ?_
 rintro r lS cg rfl
 have Rb:=l7.trans (l8.trans (GS.trans (bK.trans cg)))
 refine ⟨_,rfl,fun _ oR cK=>(Oi (T6.le (Rb.trans cK)) (k:=2) fS (by omega)).mono ?_,fun h=>by cases h⟩
 rintro r mP dN gq
 have Oy:=gq
 obtain ⟨_,_,_,_,_,_,rfl⟩:=gq.shape
 refine ⟨_,_,_,_,_,_,_,rfl,fun lE dF=>(dY 1 (by omega) (by omega)).mono ?_⟩
 rintro r lT dw g1
 have g10:=g1
 obtain ⟨_,_,_,_,_,_,rfl⟩:=g1.shape
 refine ⟨_,_,_,_,_,_,_,rfl,fun nk dj=>(kP (Oy.le (dF.trans (dw.trans dj))) (g10.le dj) fS fS (by omega)).mono ?_⟩
 rintro r qn dB rfl
 have JN:=cK.trans (dN.trans (dF.trans (dw.trans (dj.trans dB))))
 refine ⟨_,rfl,fun _ tM dI=>(xy 1 0 (by decide) (by decide)).mono ?_,fun h=>by
  rw [show eR ((1:Int):Rat) ((1:Int):Rat)=0 from ib.1 rfl] at h;cases h⟩
 rintro r yW fF h1
 have h10:tL yW r (((1:Int):Rat),((0:Int):Rat)):=h1
 obtain ⟨_,_,_,_,_,_,_,_,_,_,_,_,_,_,rfl⟩:=h10.shape
 refine ⟨_,_,_,_,_,_,_,_,_,_,_,_,_,_,rfl,fun ug fr=>(xy 1 1 (by decide) (by decide)).mono ?_⟩
 rintro r tN il h2
 have h20:tL tN r (((1:Int):Rat),((1:Int):Rat)):=h2
 obtain ⟨_,_,_,_,_,_,_,_,_,_,_,_,_,_,rfl⟩:=h20.shape
 refine ⟨_,_,_,_,_,_,_,_,_,_,_,_,_,_,rfl,fun xl fX=>(xy 0 1 (by decide) (by decide)).mono ?_⟩
 rintro r IF mX h3
 have XS:tL IF r (((0:Int):Rat),((1:Int):Rat)):=h3
 obtain ⟨_,_,_,_,_,_,_,_,_,_,_,_,_,_,rfl⟩:=XS.shape
 refine ⟨_,_,_,_,_,_,_,_,_,_,_,_,_,_,rfl,fun Ht kh=>(xy 0 0 (by decide) (by decide)).mono ?_⟩
 rintro r IV lQ h4
 have SR:tL IV r (((0:Int):Rat),((0:Int):Rat)):=h4
 obtain ⟨_,_,_,_,_,_,_,_,_,_,_,_,_,_,rfl⟩:=SR.shape
 have JR:=kh.trans lQ
 have Bb:=fX.trans (mX.trans JR)
 refine ⟨_,_,_,_,_,_,_,_,_,_,_,_,_,_,rfl,fun Nc lf bk hb=>?_⟩
 have hrow:Row 6 tL Nc _ S9:=DM (a:=[_,_,_,_,_,_]) (b:=[_,_,_,_,_,_]) (c:=[_,_,_,_,_,_]) (d:=[_,_,_,_,_,_]) rfl rfl rfl rfl (h10.le (fr.trans (il.trans (Bb.trans lf)))) (h20.le (Bb.trans lf)) (XS.le (JR.trans lf)) (SR.le lf)
 refine (AM (cI.Kh hb hrow) (by decide) KR (by omega)).mono ?_
 rintro r Nf vx ⟨q3,m3,d3,rfl,hP⟩
 refine ⟨_,_,_,rfl,fun _ PH zZ=>(uJ (hV.le (bK.trans (cg.trans (JN.trans (dI.trans (fF.trans (fr.trans (il.trans (Bb.trans (lf.trans (vx.trans zZ)))))))))) fun _ _ g=>fY.le g (bK.trans (cg.trans (JN.trans (dI.trans (fF.trans (fr.trans (il.trans (Bb.trans (lf.trans (vx.trans zZ)))))))))) ) (hP.le zZ fun _ _ g=>fY.le g zZ) (by decide) KR (by omega)).mono ?_⟩
 rintro r Lt Bc rfl
 exact ⟨_,rfl,fun SI Fo=>rfl⟩
theorem TR {V:View}{tb:Nat}{p:OA}{n c:Nat}{at_:Int}(hr:Hs V p n)(hn:n<=400)(hw:nj V tb p n c at_)(hx:V.X tb)(h0:0<=at_) :
  ab prog 72 #[.pointer (some ⟨tb,0,none⟩),.int .i64 7] V fun r V'=>∃(at':Int)(ls:List L3)(bk n' c':Nat)(vs:List Value),0<=at'/\nj V' tb p n c at'/\r=.slice (mA bk c') n' c' /\
   (vs≠[]->V'.w.heap[bk]?=some (.cells vs.toArray 27 (0,0)))/\(vs≠[]->V.w.heap.size<=bk)/\GR 6 cd (V'.jv (vs≠[]) bk) n' c' vs ls/\ls.length<=7/\∀l∈ls,cS l=true/\Bd l:=by
 have w8:i64.wrap ((7:Int)+1)=8:=ay (by omega)
 refine rF tb p n c at_ 7 V _ hw hx fun V1 l1 bk1 e1 h1=>?_
 rw [w8]
 refine (qA (V:=V1.aV [bk1]) 8 (hr.le fun b o h=>l1 b o h) hn e1 ⟨by simp,h1⟩ h0 (by omega) (by omega)).mono ?_
 rintro r V2 l2 ⟨x,IG,rfl,x0,x1,t1,hw1⟩
 refine ⟨_,rfl,p,n,c,IG,hw1,fun z V'=>∃(ls:List L3),z.2.2.2.2.1=p/\z.2.2.2.2.2.1=n/\z.2.2.2.2.2.2.1=c/\0<=z.2.2.2.2.2.2.2/\0<=z.2.2.2.1/\(ls.length:Int)+z.2.2.2.1<=7/\GR 6 cd V' z.1 z.2.1 z.2.2.1 ls/\(∀l∈ls,cS l=true/\Bd l),fun z=>z.2.2.2.1.toNat,
  ⟨(0,0,[],x,p,n,c,IG),by and_intros<;>rfl,[],rfl,rfl,rfl,t1,x0,by simp;omega,GR.nil,fun l hl=>by cases hl⟩,?_⟩
 rintro ⟨z1,z2,vs,i,zp,zn,zc,za⟩ V3 l3 ⟨ls,e5,e6,e7,ha,hi0,hi7,hg,hls⟩
 dsimp only at e5 e6 e7 ha hi0 hi7 hg
 subst e5 e6 e7
 have fX:V1.Le V3:=fun b o h=>l3 b o (l2 b o h)
 refine ⟨rfl,fun hlt V4 l4 ZA e9 h9=>?_,fun hlt V6 bk ZY e6 f1 f2=>?_⟩
 ·have hlt:i>0:=of_decide_eq_true hlt
  have w:i64.wrap (i-1)=i-1:=ay (by omega)
  refine (Xk (V:=V4.aV [ZA]) (hr.le fun b o h=>l4 b o (fX b o (l1 b o h))) hn e9 ⟨by simp,h9⟩ ha).mono ?_
  rintro r V5 l5 ⟨l,at2,hl,ok,bd,t2,hw2⟩
  have hl0:cd V5 r l:=hl
  obtain ⟨_,_,_,_,_,_,_,_,_,_,_,_,rfl⟩:=bJ hl0
  have zl:=hg.len
  rw [w]
  refine ⟨_,_,_,_,_,_,_,_,_,_,_,_,rfl,zp,zn,zc,at2,hw2,by omega,hg.le,hg.cap,rfl,Ib,fun sp c' k1 k2=>⟨(z1+1,c',_,i-1,zp,zn,zc,at2),by dsimp only;omega,by and_intros<;>rfl,ls++[l],rfl,rfl,rfl,t2,by dsimp only;omega,?_,?_,?_⟩⟩
  ·dsimp only
   rw [List.length_append,List.length_singleton]
   omega
  ·exact (hg.mono (V':=V5.shut) fun _ _ g=>cd.le (V:=V3) (V':=V5.shut) g fun b o h=>l5 b o (l4 b o h)).snoc rfl (cd.le (V:=V5) (V':=V5.shut) hl0 fun b o h=>h) (by decide) k1 k2
  ·intro y hy
   rcases List.mem_append.1 hy with hy|hy
   ·exact hls y hy
   ·rw [List.mem_singleton.1 hy];exact ⟨ok,bd⟩
 ·have hlt:¬i>0:=of_decide_eq_false hlt
  exact ⟨za,ls,bk,z1,z2,vs,ha,e6,rfl,f1,fun h=>(f2 h).elim id False.elim,hg.mono fun _ _ g=>cd.le g ZY,by omega,hls⟩
theorem GJ:Sz 10 (mkRat 1 7)/\Sz 10 (mkRat 1 5):=by unfold Sz;decide +kernel
set_option maxHeartbeats 1000000 in
theorem Oj {V:View}{tb:Nat}{p:OA}{n c:Nat}{at_:Int}(hr:Hs V p n)(hn:n<=400)(hw:nj V tb p n c at_)(hx:V.X tb)(h0:0<=at_) :
  ab prog 20 #[.pointer (some ⟨tb,0,none⟩)] V fun r V'=>∃(at':Int)(ls:List L3)(q:OA)(m e:Nat),0<=at'/\nj V' tb p n c at'/\r=.slice q m e/\cI 6 cd V' q m ls/\ls.length<=7/\∀l∈ls,cS l=true/\Bd l:=by
 refine yx tb p n c at_ V _ hw hx fun V1 l1 bk1 e1 h1=>(TR (V:=V1.aV [bk1]) (hr.le fun b o h=>l1 b o h) hn e1 ⟨by simp,h1⟩ h0).mono ?_
 rintro r V2 l2 ⟨IG,ls,bm,n1,c1,vm,t1,hw1,rfl,f1,f2,hg,hlen,hls⟩
 have f2':vm≠[]->V1.w.heap.size<=bm:=f2
 have zl:=hg.len
 have Ti:=hg.le
 have zcap:=hg.cap
 refine ⟨bm,vm,f1,fun h=>.inl (f2' h),none,n1,c1,rfl,p,n,c,IG,hw1,fun V3 l3 TP e3 h3=>?_⟩
 have cK:V1.Le V3:=fun b o hb=>l3 b o (vy (V:=V1.aV [bk1]) l2 (fun h=>.inl (f2' h)) b o hb)
 have hg3:GR 6 cd V3 n1 c1 vm ls:=hg.mono fun _ _ g=>cd.le g fun b o h=>l3 b o h
 have zY:=l1.trans cK
 refine (qA (V:=V3.aV [TP]) 3 (hr.le fun b o h=>zY b o h) hn e3 ⟨by simp,h3⟩ t1 (by omega) (by omega)).mono ?_
 rintro r V4 l4 ⟨x,at2,rfl,x0,x1,t2,hw2⟩
 refine ⟨_,rfl,p,n,c,at2,hw2,fun hz V5 l5 TH e5 hb=>?_,fun hz V6 l6 TJ e6 h6=>?_⟩
 ·have Ft:V3.Le V5:=fun b o h=>l5 b o (l4 b o h)
  refine ⟨at2,ls,mA TH c1,n1,c1,t2,e5,rfl,?_,hlen,hls⟩
  rw [zl]
  exact cI.fQ hb (hg3.row.le fun _ _ g=>cd.le g Ft) (by decide) (by omega)
 have Ny:V3.Le V6:=fun b o h=>l6 b o (l4 b o h)
 have Nx:=zY.trans Ny
 refine (SL (V:=V6.aV [TJ]) (hr.le fun b o h=>Nx b o h) hn e6 ⟨by simp,h6⟩ t2).mono ?_
 rintro r V7 l7 ⟨q1,at3,g7,s7,t3,hw3⟩
 have Jt:=g7
 obtain ⟨_,_,_,_,_,_,rfl⟩:=g7.shape
 refine ⟨_,_,_,_,_,_,_,rfl,p,n,c,at3,hw3,fun V8 l8=>(kS 1 7 (by omega) (by omega) (by omega) (by omega)).mono ?_⟩
 rintro r V9 l9 g9
 have T5:=g9
 obtain ⟨_,_,_,_,_,_,rfl⟩:=g9.shape
 have Rc:V7.Le V9:=fun b o h=>l9 b o (l8 b o h)
 have Vj:V6.Le V9:=fun b o h=>Rc b o (l7 b o h)
 refine ⟨_,_,_,_,_,_,_,rfl,fun jk l10=>(cF (Jt.le (Rc.trans l10)) (T5.le l10) s7 GJ.1 (by omega)).mono ?_⟩
 rintro r jh bK g11
 have TV:=g11
 obtain ⟨_,_,_,_,_,_,rfl⟩:=g11.shape
 have sO:Sz 40 (q1+mkRat 1 7):=(s7.add GJ.1).mono (by omega)
 have NC:=Vj.trans (l10.trans bK)
 refine ⟨_,_,_,_,_,_,_,rfl,fun lS cg TN e12 h12=>(SL (V:=lS.aV [TN]) (hr.le fun b o h=>cg b o (NC b o (Nx b o h))) hn e12 ⟨by simp,h12⟩ t3).mono ?_⟩
 rintro r oR Va ⟨q2,at4,g13,s13,t4,hw4⟩
 have TW:=g13
 obtain ⟨_,_,_,_,_,_,rfl⟩:=g13.shape
 have OZ:jh.Le oR:=fun b o h=>Va b o (cg b o h)
 refine ⟨_,_,_,_,_,_,_,rfl,p,n,c,at4,hw4,fun mP dN=>(kS 1 5 (by omega) (by omega) (by omega) (by omega)).mono ?_⟩
 rintro r lE dF g15
 have TX:=g15
 obtain ⟨_,_,_,_,_,_,rfl⟩:=g15.shape
 have JO:oR.Le lE:=fun b o h=>dF b o (dN b o h)
 refine ⟨_,_,_,_,_,_,_,rfl,fun lT dw=>(cF (TW.le (JO.trans dw)) (TX.le dw) s13 GJ.2 (by omega)).mono ?_⟩
 rintro r nk dj g17
 have TY:=g17
 obtain ⟨_,_,_,_,_,_,rfl⟩:=g17.shape
 have s17:Sz 40 (q2+mkRat 1 5):=(s13.add GJ.2).mono (by omega)
 have JL:=OZ.trans (JO.trans (dw.trans dj))
 have Q8:=Ny.trans (NC.trans JL)
 refine ⟨_,_,_,_,_,_,_,rfl,fun z V'=>∃(j:Nat)(ms:List L3),z.1=(j:Int)/\j<=n1/\ms.length=ls.length/\Row 6 cd V' z.2 ms/\z.2.length=vm.length/\∀l∈ms,cS l=true/\Bd l,fun z=>n1-z.1.toNat,⟨(0,vm),by and_intros<;>rfl,0,ls,rfl,Nat.zero_le _,rfl,hg3.row.le fun _ _ g=>cd.le g Q8,rfl,hls⟩,?_⟩
 rintro ⟨z1,vs⟩ qn dB ⟨j,ms,SM,H7,hml,hrow,hvl,hms⟩
 dsimp only at SM hrow hvl
 subst SM
 refine ⟨rfl,fun hlt=>?_,fun hlt xl fX bk e23 hb=>?_⟩
 ·have hlt:(j:Int)<n1:=of_decide_eq_true hlt
  have hj:j<ms.length:=by omega
  have w:i64.wrap ((j:Int)+1)=((j+1:Nat):Int):=by rw [ay (by omega)];rfl
  dsimp only
  rw [Int.toNat_natCast,w]
  obtain ⟨b1,p1,n1',c1',b2,p2,n2,c2,b3,p3,n3,c3,fD,Qq,hl⟩:=Pk hrow hj
  obtain ⟨ok,bd⟩:=hms _ (List.getElem_mem hj)
  have hp:RP qn _ (q1+mkRat 1 7) (q2+mkRat 1 5):=⟨_,_,_,_,_,_,_,_,_,_,_,_,rfl,TV.le (JL.trans dB),TY.le dB⟩
  refine ⟨⟨by omega,by omega⟩,Ti,b1,p1,n1',c1',b2,p2,n2,c2,b3,p3,n3,c3,⟨fD,Qq⟩,fun tM dI=>(Bx (L:=ms[j]) (hl.le dI) (hp.le dI) (k:=1000) bd.kF (sO.mono (by omega)) (s17.mono (by omega)) (by omega)).mono ?_⟩
  rintro r yW fF rfl
  have Fm:=dI.trans fF
  refine ⟨_,rfl,fun hc ug fr=>(rP (a:=ms[j].1) (b:=ms[j].2.1) (c:=ms[j].2.2) (hl.le (Fm.trans fr))).mono ?_,fun hc=>⟨(((j+1:Nat):Int),vs),by dsimp only;omega,by and_intros<;>rfl,j+1,ms,rfl,by omega,hml,hrow.le fun _ _ g=>cd.le g Fm,hvl,hms⟩⟩
  rintro r tN il gr
  have Oz:cd tN r (fR ms[j]):=gr
  obtain ⟨_,_,_,_,_,_,_,_,_,_,_,_,rfl⟩:=bJ Oz
  have O0:=Fm.trans (fr.trans il)
  refine ⟨_,_,_,_,_,_,_,_,_,_,_,_,rfl,⟨by omega,by omega⟩,Ti,fD,(((j+1:Nat):Int),cJ vs (j*6) [_,_,_,_,_,_]),by dsimp only;omega,by and_intros<;>rfl,j+1,ms.set j (fR ms[j]),rfl,by omega,by rw [List.length_set];exact hml,?_,?_,?_⟩
  ·exact (hrow.le (V':=tN) fun _ _ g=>cd.le g O0).put hj (by decide) rfl Oz
  ·exact (mw (xs:=[_,_,_,_,_,_]) fD).trans hvl
  ·intro y hy
   rcases List.mem_or_eq_of_mem_set hy with hy|rfl
   ·exact hms y hy
   ·exact ⟨Bk ok,bd.rev⟩
 ·refine ⟨at4,ms,mA bk c1,n1,c1,t4,e23,rfl,?_,by omega,hms⟩
  have e:n1=ms.length:=by omega
  rw [e]
  exact cI.fQ hb (hrow.le fun _ _ g=>cd.le g fX) (by decide) (by omega)
theorem uG {V:View}{v:Value}{q:Rat}(h:RQ V v q):ab prog 42 #[v] V fun r V'=>r=.int .i64 q.num.sign:=by
 obtain ⟨_,_,_,_,_,_,rfl,h1,-⟩:=h
 exact tP q h1
theorem pG {V:View}{p:OA}{n:Nat}{al:List L3}(h:cI 6 cd V p n al){i:Nat}(hi:i<al.length) :
  p.isSome=true/\∃(b1:Bool)(p1:OA)(n1 c1:Nat)(b2:Bool)(p2:OA)(n2 c2:Nat)(b3:Bool)(p3:OA)(n3 c3:Nat)(a:Addr),ah p (i*6)=some a/\V.at (a.add 0) (.bool b1)/\V.at (a.add 1) (.slice p1 n1 c1)/\V.at (a.add 2) (.bool b2)/\V.at (a.add 3) (.slice p2 n2 c2)/\V.at (a.add 4) (.bool b3)/\V.at (a.add 5) (.slice p3 n3 c3) /\
   cd V (.agg #[.bool b1,.slice p1 n1 c1,.bool b2,.slice p2 n2 c2,.bool b3,.slice p3 n3 c3]) al[i]:=by
 obtain ⟨ad,h0,xs,h1,h2,h3⟩:=h.at_ i hi
 have h20:=h2
 obtain ⟨_,_,_,_,_,_,_,_,_,_,_,_,e⟩:=bJ h2
 have e:=congrArg Array.toList (Value.agg.inj e)
 dsimp only at e
 subst e
 refine ⟨?_,_,_,_,_,_,_,_,_,_,_,_,_,ad,h0,h3 0 _ rfl,h3 1 _ rfl,h3 2 _ rfl,h3 3 _ rfl,h3 4 _ rfl,h3 5 _ rfl,h20⟩
 cases p with
 | none=>cases h0
 | some a=>rfl
theorem MT {l m:L3}{k:Nat}(sl:jV k l)(sm:jV k m):Sz (20*k+20) (GX l m)/\Sz (20*k+20) (GY l m):=by
 unfold GX GY aU
 obtain ⟨a1,a2,a3⟩:=sl
 obtain ⟨b1,b2,b3⟩:=sm
 exact ⟨(Sz.mul ((a2.mul b3).sub (a3.mul b2)) (dh ((a1.mul b2).sub (a2.mul b1)))).mono (by omega),(Sz.mul ((a3.mul b1).sub (a1.mul b3)) (dh ((a1.mul b2).sub (a2.mul b1)))).mono (by omega)⟩
def Fz (p:Rat×Rat):Rat×Rat:=(-p.1,-p.2)
def R4 (l:L3):List (Rat×Rat):=[pM (aq.ax l),Fz (pM (aq.ax l))]
def KC (M:List L3):List (Rat×Rat):=M.flatMap R4
structure Nb (V:View) (n:Nat) (vs:List Value) (l:List (Rat×Rat)):Prop where
 row:Row 6 Lf V vs l
 len:n=l.length
 Qs:l.length<50
theorem Nb.le {V V':View}{n:Nat}{vs:List Value}{l:List (Rat×Rat)}(h:Nb V n vs l)(e:V.Le V'):Nb V' n vs l:=⟨h.row.le fun _ _ g=>Lf.le g e,h.len,h.Qs⟩
theorem Nb.get {V:View}{n:Nat}{vs:List Value}{l:List (Rat×Rat)}(h:Nb V n vs l){k:Nat}(hk:k<l.length):∃(x y:Int)(p:OA)(xb yb:Int)(pb:OA),
  ((0+k*6)+6<=vs.length/\(vs.drop (0+k*6)).take 6=[.int .i64 x,.int .i64 y,.pointer p,.int .i64 xb,.int .i64 yb,.pointer pb])/\Lf V (.agg #[.int .i64 x,.int .i64 y,.pointer p,.int .i64 xb,.int .i64 yb,.pointer pb]) (l.getD k Oq):=by
 obtain ⟨xs,-,h2,h3,h4⟩:=h.row.get (d:=Oq) hk (by decide)
 have h20:=h2
 obtain ⟨x,y,p,xb,yb,pb,e⟩:=h2.shape
 have e:=congrArg Array.toList (Value.agg.inj e)
 dsimp only at e
 subst e
 rw [Nat.zero_add]
 exact ⟨x,y,p,xb,yb,pb,⟨h3,h4⟩,h20⟩
theorem Nb.swap {V:View}{n:Nat}{vs:List Value}{l:List (Rat×Rat)}(h:Nb V n vs l){i j:Nat}(hi:i<l.length)(hj:j<l.length){x y:Int}{p:OA}{xb yb:Int}{pb:OA}{x' y':Int}{p':OA}{Pz PA:Int}{pb':OA}
  (h1:Lf V (.agg #[.int .i64 x,.int .i64 y,.pointer p,.int .i64 xb,.int .i64 yb,.pointer pb]) (l.getD i Oq))(h2:Lf V (.agg #[.int .i64 x',.int .i64 y',.pointer p',.int .i64 Pz,.int .i64 PA,.pointer pb']) (l.getD j Oq)) :
  (0+i*6)+6<=vs.length/\(0+j*6)+6<=(cJ vs (0+i*6) [.int .i64 x',.int .i64 y',.pointer p',.int .i64 Pz,.int .i64 PA,.pointer pb']).length /\
  Nb V n (cJ (cJ vs (0+i*6) [.int .i64 x',.int .i64 y',.pointer p',.int .i64 Pz,.int .i64 PA,.pointer pb']) (0+j*6) [.int .i64 x,.int .i64 y,.pointer p,.int .i64 xb,.int .i64 yb,.pointer pb]) (sw Oq l i j):=by
 obtain ⟨-,-,-,g1,-⟩:=h.row.get (d:=Oq) hi (by decide)
 obtain ⟨-,-,-,g2,-⟩:=h.row.get (d:=Oq) hj (by decide)
 rw [Nat.zero_add,Nat.zero_add]
 refine ⟨g1,by rw [mw (by exact g1)];exact g2,h.row.swap hi hj (by decide) rfl rfl h1 h2,by rw [pX];exact h.len,by rw [pX];exact h.Qs⟩
def Pn (u w:Rat×Rat):Rat×Rat:=if aq.cr u w>0 then (u.1+w.1,u.2+w.2) else (-u.2,u.1)
def KL (D:List (Rat×Rat)):List (Rat×Rat):=if D=[] then [(1,0)] else aq.R9 Pn D
theorem Fx (n:Int){d:Nat}(h:d≠0):mkRat n d*((d:Nat):Rat)=(n:Rat):=by
 have hd:((d:Nat):Rat)≠0:=by exact_mod_cast h
 rw [Rat.mkRat_eq_div,Rat.div_def]
 exact aq.inv_mul hd _
theorem Jw {p:Rat×Rat}(h:aq.nz p):g_ p.1 p.2>0:=by
 have hd:p.1.den*p.2.den≠0:=Nat.mul_ne_zero p.1.den_nz p.2.den_nz
 have e:=Fx (Nat.gcd (p.1.num.natAbs*p.2.den) (p.2.num.natAbs*p.1.den):Nat) hd
 have hg:0<Nat.gcd (p.1.num.natAbs*p.2.den) (p.2.num.natAbs*p.1.den):=by
  apply Nat.pos_of_ne_zero
  intro z
  rw [Nat.gcd_eq_zero_iff] at z
  have z1:p.1=0:=by
   rcases Nat.mul_eq_zero.1 z.1 with e|e
   ·exact Rat.num_eq_zero.1 (by omega)
   ·exact absurd e p.2.den_nz
  have z2:p.2=0:=by
   rcases Nat.mul_eq_zero.1 z.2 with e|e
   ·exact Rat.num_eq_zero.1 (by omega)
   ·exact absurd e p.1.den_nz
  unfold aq.nz at h
  rcases h with h|h
  ·exact h z1
  ·exact h z2
 have d0:((p.1.den*p.2.den:Nat):Rat)>0:=by exact_mod_cast Nat.pos_of_ne_zero hd
 have g0:(((Nat.gcd (p.1.num.natAbs*p.2.den) (p.2.num.natAbs*p.1.den):Nat):Int):Rat)>0:=by exact_mod_cast hg
 show mkRat _ _>0
 generalize mkRat ((Nat.gcd (p.1.num.natAbs*p.2.den) (p.2.num.natAbs*p.1.den):Nat):Int) (p.1.den*p.2.den)=q at *
 by_cases hq:q>0
 ·exact hq
 ·have:=aq.mn (show -q≥0 by grind) (show ((p.1.den*p.2.den:Nat):Rat)≥0 by grind)
  grind
theorem Dw {p:Rat×Rat}(h:aq.nz p):∃c:Rat,c>0/\pM p=(c*p.1,c*p.2):=
 ⟨(g_ p.1 p.2)⁻¹,Rat.inv_pos.2 (Jw h),Prod.ext (Rat.mul_comm ..) (Rat.mul_comm ..)⟩
theorem G4 {l:L3}(h:¬(l.1=0/\l.2.1=0)):aq.nz (aq.ax l):=by
 unfold aq.nz aq.ax
 by_cases e:l.2.1=0
 ·right
  intro e'
  have:(l.1:Rat)=0:=by grind
  exact h ⟨by exact_mod_cast this,e⟩
 ·left
  show (l.2.1:Rat)≠0
  exact_mod_cast e
def TS (s a:Bool):Int:=if a then 2 else if s then 1 else 0
def Gp (t:Tr)(p:Rat×Rat)(c:Int):Prop:=∀D S,aq.M_ D->aq.SH D S->aq.PE D (aq.km t p)->c=TS (aq.anyS t p S) (aq.Lv t p S)
theorem Mp {q:L3->Prop}{t:Tr}(h:t.Ld q){p:Rat×Rat}:∀l∈aq.km t p,q l:=fun l hl=>Bf h l (aq.vH hl).2
theorem MO {u w:Rat×Rat}(h:aq.cr u w≥0):aq.Hn u w (Pn u w):=by
 unfold Pn
 by_cases g:aq.cr u w>0
 ·rw [if_pos g]
  exact .inl ⟨g,1,1,by decide,by decide,Prod.ext (by unfold aq.Ll;grind) (by unfold aq.Ll;grind)⟩
 ·rw [if_neg g]
  exact .inr ⟨by grind,1,by decide,Prod.ext (by unfold aq.Ll aq.Sg;grind) (by unfold aq.Ll aq.Sg;grind)⟩
theorem Is {D:List (Rat×Rat)}(h:aq.M_ D):aq.SH D (KL D):=by
 unfold KL
 by_cases e:D=[]
 ·rw [if_pos e];exact .inl ⟨e,rfl⟩
 ·rw [if_neg e];exact aq.MM h (fun u _ w _ hc=>MO hc) e
theorem MC {M:List L3}(ho:∀l∈M,¬(l.1=0/\l.2.1=0)){m:List (Rat×Rat)}(pm:m.Perm (KC M))(pw:m.Pairwise fun x y=>¬Qo y x<0):aq.M_ (xM eP m)/\aq.PE (xM eP m) M:=by
 have mem:∀r,r∈m↔∃l∈M,r=pM (aq.ax l)\/r=Fz (pM (aq.ax l)):=fun r=>by
  rw [pm.mem_iff]
  unfold KC R4
  simp only [List.mem_flatMap,List.mem_cons,List.not_mem_nil,or_false]
 have key:=aq.Pf (m:=m) pw ?_ ?_
 ·obtain ⟨k1,k2⟩:=key
  refine ⟨k1,fun l hl=>?_⟩
  obtain ⟨y,hy,c,c0,e⟩:=k2 (pM (aq.ax l)) ((mem _).2 ⟨l,hl,.inl rfl⟩)
  obtain ⟨d,d0,e'⟩:=Dw (G4 (ho l hl))
  refine ⟨y,hy,c*d,aq.mp c0 d0,?_⟩
  rw [e,e']
  exact Prod.ext (by show c*(d*_)=_;grind) (by show c*(d*_)=_;grind)
 ·intro r hr
  obtain ⟨l,hl,h⟩:=(mem r).1 hr
  have n0:=G4 (ho l hl)
  obtain ⟨d,d0,e'⟩:=Dw n0
  have np:aq.nz (pM (aq.ax l)):=by
   rw [e']
   unfold aq.nz at n0 ⊢
   rcases n0 with n0|n0
   ·exact .inl fun h=>by rcases Rat.mul_eq_zero.1 h with h|h;grind;exact n0 h
   ·exact .inr fun h=>by rcases Rat.mul_eq_zero.1 h with h|h;grind;exact n0 h
  rcases h with rfl|rfl
  ·exact np
  ·unfold aq.nz Fz at *
   rcases np with np|np
   ·exact .inl (by show -(pM (aq.ax l)).1≠0;grind)
   ·exact .inr (by show -(pM (aq.ax l)).2≠0;grind)
 ·intro r hr
  obtain ⟨l,hl,h⟩:=(mem r).1 hr
  rcases h with rfl|rfl
  ·exact ⟨_,(mem _).2 ⟨l,hl,.inr rfl⟩,1,by decide,by unfold Fz;grind,by unfold Fz;grind⟩
  ·exact ⟨_,(mem _).2 ⟨l,hl,.inl rfl⟩,1,by decide,by unfold Fz;grind,by unfold Fz;grind⟩
def IE (V:View)(w:Value)(p:Rat×Rat):Prop:=(∃b q n c q' n' c' d r m e r' m' e',w=.agg #[.bool b,.slice q n c,.slice q' n' c',.bool d,.slice r m e,.slice r' m' e']) /\
 ∀V1,V.Le V1->ab prog 115 #[w] V1 fun r V'=>nE V' r p.1 p.2
theorem IE.le {V V':View}{w:Value}{p:Rat×Rat}(h:IE V w p)(l:V.Le V'):IE V' w p:=⟨h.1,fun V1 l1=>h.2 V1 (l.trans l1)⟩
theorem IE.of {V:View}{w:Value}{p:Rat×Rat}(h:IU V w p.1 p.2){k:Nat}(s1:Sz k p.1)(s2:Sz k p.2)(hk:k<=1099511627776):IE V w p:=by
 refine ⟨?_,fun V1 l1=>ER (h.le l1) s1 s2 hk⟩
 obtain ⟨b,q,n,c,q',n',c',d,r,m,e,r',m',e',rfl,-⟩:=h
 exact ⟨_,_,_,_,_,_,_,_,_,_,_,_,_,_,rfl⟩
theorem IE.raw {V:View}{b d:Bool}{q q' r r':OA}{n c n' c' m e m' e':Nat}{xs ys us vs:List Nat}(h1:RD V q n c xs)(h2:RD V q' n' c' ys)(h3:RD V r m e us)(h4:RD V r' m' e' vs)(k1:xs.length<=1000000)(k2:ys.length<=1000000)(k3:us.length<=1000000)(k4:vs.length<=1000000) :
  IE V (.agg #[.bool b,.slice q n c,.slice q' n' c',.bool d,.slice r m e,.slice r' m' e']) (mkRat (aY b xs) (val ys),mkRat (aY d us) (val vs)):=by
 refine ⟨⟨_,_,_,_,_,_,_,_,_,_,_,_,_,_,rfl⟩,fun V0 l0=>?_⟩
 refine sI b q n c q' n' c' d r m e r' m' e' V0 _ fun V1 l1=>(nV b (h1.le (l0.trans l1)) (h2.le (l0.trans l1)) (by omega) (by omega)).mono ?_
 rintro r V2 l2 g
 have g0:=g
 obtain ⟨x1,x2,x3,rfl⟩:=g.shape
 refine ⟨_,_,_,rfl,fun V3 l3=>(nV d (h3.le (l0.trans (l1.trans (l2.trans l3)))) (h4.le (l0.trans (l1.trans (l2.trans l3)))) (by omega) (by omega)).mono ?_⟩
 rintro r V4 l4 g'
 have g0':=g'
 obtain ⟨y1,y2,y3,rfl⟩:=g'.shape
 exact ⟨_,_,_,rfl,fun V5 l5=>⟨_,_,_,_,_,_,rfl,g0.le (l3.trans (l4.trans l5)),g0'.le l5⟩⟩
theorem IE.zero {V:View}:IE V (.agg #[.bool false,.slice none 0 0,.slice none 0 0,.bool false,.slice none 0 0,.slice none 0 0]) (0,0):=by
 have e:mkRat (aY false []) (val [])=0:=by decide
 have:=@IE.raw V false false none none none none 0 0 0 0 0 0 0 0 [] [] [] [] RD.nil RD.nil RD.nil RD.nil (by decide) (by decide) (by decide) (by decide)
 rw [e] at this
 exact this
def PG (k:Nat)(V:View)(v:Value)(c:Rat×Rat):Prop:=RP V v c.1 c.2/\Sz k c.1/\Sz k c.2
theorem PG.le {k:Nat}{V V':View}{v:Value}{c:Rat×Rat}(h:PG k V v c)(l:V.Le V'):PG k V' v c:=⟨h.1.le l,h.2⟩
theorem PG.mono {k m:Nat}{V:View}{v:Value}{c:Rat×Rat}(h:PG k V v c)(l:k<=m):PG m V v c:=⟨h.1,h.2.1.mono l,h.2.2.mono l⟩
structure Tw (V:View) (y z:Value):Prop where
 inv:Cd V 0 y
 lim:Cd V 3 z
 yE:EE y
 zE:EE z
theorem Tw.le {V V':View}{y z:Value}(h:Tw V y z)(l:V.Le V'):Tw V' y z:=⟨h.inv.le l,h.lim.le l,h.yE,h.zE⟩
theorem AT.leaf {V:View}(i:Bool):AT V (.agg #[.int .i64 (rt 0 (.leaf i)),.slice none 0 0]) (rt 0 (.leaf i)) (wr 0 (.leaf i)):=⟨_,_,_,rfl,NS.nil⟩
def Hq (V:View)(vs:List Value)(i:Nat)(d:Nd):Prop:=∃(b1:Bool)(p1:OA)(n1 c1:Nat)(b2:Bool)(p2:OA)(n2 c2:Nat)(b3:Bool)(p3:OA)(n3 c3:Nat),
 (∀j v,([.bool b1,.slice p1 n1 c1,.bool b2,.slice p2 n2 c2,.bool b3,.slice p3 n3 c3,.int .i64 d.left,.int .i64 d.right]:List Value)[j]?=some v->vs[i*8+j]?=some v) /\
 oO V (.agg #[.bool b1,.slice p1 n1 c1,.bool b2,.slice p2 n2 c2,.bool b3,.slice p3 n3 c3]) d.ln
theorem Hq.le {V V':View}{vs:List Value}{i:Nat}{d:Nd}(h:Hq V vs i d)(hl:V.Le V'):Hq V' vs i d:=by
 obtain ⟨b1,p1,n1,c1,b2,p2,n2,c2,b3,p3,n3,c3,h1,h2⟩:=h
 exact ⟨b1,p1,n1,c1,b2,p2,n2,c2,b3,p3,n3,c3,h1,h2.le hl⟩
theorem Kt {vs xs:List Value}{k i:Nat}(hx:xs.length=8)(h:k*8+8<=vs.length)(hi:i<k*8\/k*8+8<=i):(vs.take (k*8)++xs++vs.drop (k*8+8))[i]?=vs[i]?:=by
 have ht:(vs.take (k*8)).length=k*8:=by rw [List.length_take];omega
 rcases hi with hi|hi
 ·rw [List.append_assoc,List.getElem?_append_left (by omega),List.getElem?_take,if_pos hi]
 ·rw [List.getElem?_append_right (by rw [List.length_append];omega),List.length_append,ht,hx,List.getElem?_drop]
  congr 1
  omega
theorem lt8 {a b c d e f g h v:Value}{j:Nat}(hv:([a,b,c,d,e,f,g,h]:List Value)[j]?=some v):j<8:=by
 rcases Nat.lt_or_ge j 8 with hj|hj
 ·exact hj
 ·rw [List.getElem?_eq_none (by simpa using hj)] at hv;cases hv
theorem Hq.out {V:View}{vs xs:List Value}{k i:Nat}{d:Nd}(h:Hq V vs i d)(hx:xs.length=8)(hk:k*8+8<=vs.length)(hi:i≠k):Hq V (vs.take (k*8)++xs++vs.drop (k*8+8)) i d:=by
 obtain ⟨b1,p1,n1,c1,b2,p2,n2,c2,b3,p3,n3,c3,h1,h2⟩:=h
 refine ⟨b1,p1,n1,c1,b2,p2,n2,c2,b3,p3,n3,c3,fun j v hv=>?_,h2⟩
 have:=lt8 hv
 rw [Kt hx hk (by omega)]
 exact h1 j v hv
def vm (n b m:Nat):Nat:=(n-1-m+(n-b))%n
def GM (V:View):View:=⟨V.w,fun b=>b<V.w.heap.size,fun _=>False,fun _ h=>h,fun _ h=>h.elim⟩
theorem EF {f:FuncId}{args:Array Value}{V:View}{o:Obj}(h:ab prog f args (GM V) fun r V'=>∃bk,r=.pointer (some ⟨bk,0,none⟩)/\V'.bI bk o) :
  ab prog f args V fun r V'=>∃bk,r=.pointer (some ⟨bk,0,none⟩)/\V.w.heap.size<=bk/\V'.bI bk o:=
 ⟨h.1,h.2.mono fun _ _ ⟨_,he,hx,bk,hr,hb⟩=>⟨_,he,⟨hx.size,fun b hb _=>hx.bI b hb (fun h=>h),hx.os,hx.tape,hx.out⟩,bk,hr,Nat.le_of_not_lt hb.1,fun hh=>hb.1 (V.hH bk hh),hb.2⟩⟩
theorem CD {V:View}{lp:OA}{ln lc:Nat}(hc:ln<=lc) :
  ab prog 21 #[.slice lp ln lc] V fun r V'=>∃bk,r=.pointer (some ⟨bk,0,none⟩)/\V.w.heap.size<=bk/\V'.bI bk (.cells #[.slice lp (min ln 400) lc,.int .i64 0] 136 (0,0)):=by
 refine EF (B7 lp ln lc (GM V) _ ?_)
 have e:bT (ln:Int) 400=((min ln 400:Nat):Int):=by
  unfold bT
  simp only [Nat.min_def]
  split<;>split<;>omega
 rw [e,Int.toNat_natCast]
 have:=Nat.min_le_left ln 400
 exact ⟨⟨by omega,by omega⟩,fun V1 l1 bk hb=>⟨bk,rfl,hb⟩⟩
theorem JV {V1 V2 V3:View}{bk:Nat}(l2:V1.Le V2)(hfr:V1.w.heap.size<=bk)(l3:(V2.JC bk).Le V3):V1.Le V3:=fun b o h=>l3 b o ⟨fun hh=>hh.elim (l2 b o h).1 fun e=>by
  have hlt:b<V1.w.heap.size:=by
   rcases Nat.lt_or_ge b V1.w.heap.size with h'|h'
   ·exact h'
   ·have:=h.2;rw [Array.getElem?_eq_none h'] at this;cases this
  have:=e.1
  omega,(l2 b o h).2⟩
theorem Iu (l:List (Rat×Rat)):∃m:List (Rat×Rat),m.Perm l/\m.Pairwise fun x y=>¬Qo y x<0:=by
 refine ⟨l.mergeSort (fun x y=>decide (¬Qo y x<0)),List.mergeSort_perm ..,?_⟩
 refine (List.pairwise_mergeSort (le:=fun x y=>decide (¬Qo y x<0)) (fun a b c h1 h2=>?_) (fun a b=>?_) l).imp fun h=>of_decide_eq_true h
 ·exact decide_eq_true (aq.um c b a (of_decide_eq_true h2) (of_decide_eq_true h1))
 ·by_cases h:Qo b a<0
  ·have:=aq.tO b a h
   rw [Bool.or_eq_true]
   exact .inr (decide_eq_true this)
  ·rw [Bool.or_eq_true]
   exact .inl (decide_eq_true h)
theorem indep {t:Tr}{l:L3}(ho:(Tr.node l t t).Ld fun l=>¬(l.1=0/\l.2.1=0)){p:Rat×Rat}{a b:Int}(h1:Gp t p a)(h2:Gp (.node l t t) p b):a=b:=by
 obtain ⟨m,pm,pw⟩:=Iu (KC (aq.km (.node l t t) p))
 obtain ⟨ry,cv⟩:=MC (Mp ho) pm pw
 have sm:=Is ry
 have sub:∀x∈aq.km t p,x∈aq.km (.node l t t) p:=fun x hx=>by
  rw [aq.km]
  by_cases e:ar l p.1 p.2≥0
  ·rw [if_pos e];exact List.mem_append_right _ (List.mem_append_left _ hx)
  ·rw [if_pos (show ar l p.1 p.2<=0 by grind)];exact List.mem_append_right _ (List.mem_append_right _ hx)
 have e1:=h1 _ _ ry sm fun l hl=>cv l (sub l hl)
 have e2:=h2 _ _ ry sm cv
 generalize KL (xM eP m)=S at *
 have key:∀v∈S,aq.DU (.node l t t) p v=aq.DU t p v:=fun v hv=>by
  have n:=cv.gen (aq.MP ry sm v hv)
  have:=(aq.wj n fun l _=>⟨id,id⟩).2
  rw [aq.DU] at this ⊢
  split
  ·rfl
  ·rename_i q
   rw [if_neg q] at this
   split
   ·rfl
   ·rename_i q'
    rw [if_neg q'] at this
    cases this
 have k1:aq.anyS (.node l t t) p S=aq.anyS t p S:=by
  unfold aq.anyS
  rw [Bool.eq_iff_iff,List.any_eq_true,List.any_eq_true]
  constructor
  ·rintro ⟨x,hx,h⟩;exact ⟨x,hx,by rw [←key x hx];exact h⟩
  ·rintro ⟨x,hx,h⟩;exact ⟨x,hx,by rw [key x hx];exact h⟩
 have k2:aq.Lv (.node l t t) p S=aq.Lv t p S:=by
  unfold aq.Lv
  rw [Bool.eq_iff_iff,List.all_eq_true,List.all_eq_true]
  constructor
  ·intro h x hx;rw [←key x hx];exact h x hx
  ·intro h x hx;rw [key x hx];exact h x hx
 rw [e1,e2,k1,k2]
end Go.Proofs.Tryz
namespace Go.bM
def View.bare (V:View)(b:Nat):View:=⟨V.w,fun x=>V.H x/\x≠b,fun x=>V.X x/\x≠b,fun x h=>V.hH x h.1,fun x h=>⟨V.hX x h.1,h.2⟩⟩
theorem ab.bare {P:Program}{f:FuncId}{args:Array Value}{V:View}{b:Nat}{R:Value->View->Prop}(hs:b<V.w.heap.size)(h:ab P f args (V.bare b) R) :
  ab P f args V fun r V'=>V'.w.heap[b]?=V.w.heap[b]?/\R r (V'.bare b):=by
 refine ⟨h.1,h.2.mono fun _ w' ⟨r,he,hx,hr⟩=>⟨r,he,⟨hx.size,fun x h1 h2=>hx.bI x h1 fun h=>h2 h.1,hx.os,hx.tape,hx.out⟩,hx.bI b hs (fun h=>h.2 rfl),hr⟩⟩
def M8 (V:View)(b:Nat):Prop:=∃(cs:Array Value)(ty:TypeId)(m:Nat×Nat),V.w.heap[b]?=some (.cells cs ty m)/\∀v∈cs,∀k z,v≠.int k z
theorem M8.ne {V:View}{b:Nat}(h:M8 V b){a:Addr}{k:IntKind}{z:Int}(ha:(V.bare b).at a (.int k z)):a.block≠b:=by
 obtain ⟨cs,ty,m,hb,hn⟩:=h
 intro e
 have h2:=ha.2
 unfold World.cell? at h2
 rw [e] at h2
 have hb':(V.bare b).w.heap[b]?=some (.cells cs ty m):=hb
 rw [hb'] at h2
 dsimp only at h2
 split at h2
 ·cases h2
 ·obtain ⟨hi,e2⟩:=Array.getElem?_eq_some_iff.1 h2
  exact hn _ (e2▸Array.getElem_mem hi) k z rfl
end Go.bM
namespace Go.Proofs.Tryz
open Go.bM Go.fB
theorem mS {a b:Rat}:eR a b<0↔a<b:=by
 constructor
 ·intro h
  by_cases c:a<b
  ·exact c
  ·by_cases e:a=b
   ·have:=ib.1 e;omega
   ·have:=tQ.1 (show b<a by grind);omega
 ·intro h;have:=AU.1 h;omega
theorem t_:Sz 10 ((1:Int):Rat):=Ez (z:=1) (by omega)
theorem Sc {l:L3}(h:Bd l){k:Nat}{p:Rat×Rat}(s1:Sz k p.1)(s2:Sz k p.2):Sz (2*k+3010) (ar l p.1 p.2):=by
 have:=h.kF
 exact (((this.1.mul s1).add (this.2.1.mul s2)).add this.2.2).mono (by omega)
theorem Ke {p v:Rat×Rat}{ls:List L3}{i:Nat}(h:i<ls.length)(s:Rat):(ls.take (i+1)).foldl (aq.Bi p v) s=aq.Bi p v ((ls.take i).foldl (aq.Bi p v) s) ls[i]:=by
 rw [←List.take_append_getElem h,List.foldl_append]
 rfl
theorem GA {a b:Rat}:eR a b>0↔b<a:=by
 constructor
 ·intro h
  rcases mT a b with ⟨g,e⟩|⟨g,e⟩|⟨g,e⟩<;>first|omega|exact g
 ·intro h;have:=tQ.1 h;omega
abbrev YU:=Bool×OA×Nat×Nat×OA×Nat×Nat×Bool×OA×Nat×Nat×OA×Nat×Nat×Bool×Bool
def SK (z:YU):Value:=.agg #[.bool z.1,.slice z.2.1 z.2.2.1 z.2.2.2.1,.slice z.2.2.2.2.1 z.2.2.2.2.2.1 z.2.2.2.2.2.2.1,.bool z.2.2.2.2.2.2.2.1,.slice z.2.2.2.2.2.2.2.2.1 z.2.2.2.2.2.2.2.2.2.1 z.2.2.2.2.2.2.2.2.2.2.1,.slice z.2.2.2.2.2.2.2.2.2.2.2.1 z.2.2.2.2.2.2.2.2.2.2.2.2.1 z.2.2.2.2.2.2.2.2.2.2.2.2.2.1,.bool z.2.2.2.2.2.2.2.2.2.2.2.2.2.2.1,.bool z.2.2.2.2.2.2.2.2.2.2.2.2.2.2.2]
theorem Yv {V:View}{xb:Bool}{xp:OA}{xn xc:Nat}{xq:OA}{xm xe:Nat}{yb:Bool}{yp:OA}{yn yc:Nat}{yq:OA}{ym ye:Nat}{xa ya:Bool}{s:Sp}(h:ED V (.agg #[.bool xb,.slice xp xn xc,.slice xq xm xe,.bool yb,.slice yp yn yc,.slice yq ym ye,.bool xa,.bool ya]) s):xa=s.a/\ya=s.b/\RQ V (.agg #[.bool xb,.slice xp xn xc,.slice xq xm xe]) s.lo/\RQ V (.agg #[.bool yb,.slice yp yn yc,.slice yq ym ye]) s.hi:=by
 obtain ⟨_,_,_,_,_,_,_,_,_,_,_,_,_,_,e,h1,h2⟩:=h
 have e:=congrArg Array.toList (Value.agg.inj e)
 simp only [List.cons.injEq,Value.bool.injEq,Value.slice.injEq,and_true] at e
 obtain ⟨rfl,⟨rfl,rfl,rfl⟩,⟨rfl,rfl,rfl⟩,rfl,⟨rfl,rfl,rfl⟩,⟨rfl,rfl,rfl⟩,rfl,rfl⟩:=e
 exact ⟨rfl,rfl,h1,h2⟩
theorem R7 {V:View}{xb:Bool}{xp:OA}{xn xc:Nat}{xq:OA}{xm xe:Nat}{yb:Bool}{yp:OA}{yn yc:Nat}{yq:OA}{ym ye:Nat}{xa ya:Bool}{s:Sp}(ea:xa=s.a)(eb:ya=s.b)(h1:RQ V (.agg #[.bool xb,.slice xp xn xc,.slice xq xm xe]) s.lo)(h2:RQ V (.agg #[.bool yb,.slice yp yn yc,.slice yq ym ye]) s.hi):ED V (.agg #[.bool xb,.slice xp xn xc,.slice xq xm xe,.bool yb,.slice yp yn yc,.slice yq ym ye,.bool xa,.bool ya]) s:=by
 subst ea eb;exact ⟨_,_,_,_,_,_,_,_,_,_,_,_,_,_,rfl,h1,h2⟩
def mj (l m:L3)(s:Sp):Sp:=if 0<(d_ m l).num.sign then (if s.a=true\/s.lo<lj l m then ⟨lj l m,s.hi,false,s.b⟩ else s) else (if s.b=true\/lj l m<s.hi then ⟨s.lo,lj l m,s.a,false⟩ else s)
theorem zL {l m:L3}{s:Sp}(hc:aU l m≠0):ph l m s=if (mj l m s).a=false/\(mj l m s).b=false/\(mj l m s).hi<=(mj l m s).lo then none else some (mj l m s):=by
 unfold ph;rw [if_neg hc];rfl
theorem HR {l m:L3}{s:Sp}(hc:aU l m=0):ph l m s=if (ar m (gX l 0) (h_ l 0)).num.sign<=0 then none else some s:=by
 unfold ph;rw [if_pos hc]
theorem Hg {l m:L3}(hl:Nz l)(bl:Bd l)(bm:Bd m)(hc:aU l m≠0):Sz 100000 (lj l m):=by
 rw [Ds hl hc];exact (tZ bl.kF bm.kF).mono (by omega)
theorem O1 {l m:L3}{s:Sp}(hl:Nz l)(bl:Bd l)(bm:Bd m)(hc:aU l m≠0)(hs:s.sz 100000):(mj l m s).sz 100000:=by
 have:=Hg hl bl bm hc
 unfold mj
 split<;>split<;>first|exact hs|exact ⟨this,hs.2⟩|exact ⟨hs.1,this⟩
theorem Jk {l m:L3}{s w:Sp}(hl:Nz l)(bl:Bd l)(bm:Bd m)(sg:s.jj)(hs:s.sz 100000)(e:ph l m s=some w):w.jj/\w.sz 100000:=by
 rw [uY hl sg] at e
 split at e
 ·rename_i g
  cases e
  exact ⟨kf sg g,BG bl.kF bm.kF hs (by omega)⟩
 ·cases e
theorem MA {V:View}{v:Value}{L:L3}(h:RL V v L.1 L.2.1 L.2.2)(hz:Nz L)(hb:Bd L):ab prog 153 #[v] V fun r V'=>RP V' r (gX L 0) (h_ L 0):=by
 have sl:=hb.kF
 refine (o_ h (FL hz) sl.1 sl.2.1 sl.2.2 (by omega)).mono fun r V' _ g=>?_
 have e1:gX L 0=_:=rfl
 unfold gX h_
 unfold fv
 have a1:∀x y:Rat,x=y->∀z w:Rat,z=w->RP V' r x z->RP V' r y w:=by rintro x _ rfl z _ rfl h;exact h
 refine a1 _ _ ?_ _ _ ?_ g<;>grind
theorem KW {L:L3}(hb:Bd L):Sz 30000 (gX L 0)/\Sz 30000 (h_ L 0):=by
 have sl:=hb.kF
 exact ⟨Sz.mono (FT sl (MV 1000 (by omega))) (by omega),Sz.mono (FU sl (MV 1000 (by omega))) (by omega)⟩
theorem AQ {V:View}{cp:OA}{cn cc:Nat}{ls:List L3}{i:Nat}(h:cI 6 cd V cp cn ls)(hb:∀l∈ls,Bd l)(hk:∀l∈ls,cS l=true)(hl:ls.length<=1000)(hi:i<ls.length) :
  ab prog 85 #[.slice cp cn cc,.int .i64 i] V fun r V'=>∃u s,r=.tuple #[u,.bool (dR ls[i] ls bj).isSome]/\ED V' u s/\s.sz 100000/\∀w,dR ls[i] ls bj=some w->s=w:=by
 have hn:=h.len
 subst hn
 obtain ⟨is,b1,p1,n1,c1,b2,p2,n2,c2,b3,p3,n3,c3,a,had,a0,a1,a2,a3,a4,a5,hl1⟩:=pG h hi
 have bd:=hb _ (List.getElem_mem hi)
 have ok:=hk _ (List.getElem_mem hi)
 generalize el:ls[i]=L at *
 have sl:=bd.kF
 have nz:=Bj ok
 have hd:=iY bd
 refine yN cp ls.length cc (i:Int) V _ ⟨is,⟨by omega,by omega⟩,b1,p1,n1,c1,b2,p2,n2,c2,b3,p3,n3,c3,a,(by rw [Int.toNat_natCast];exact had),a0,a1,a2,a3,a4,a5,fun V1 l1=>AO.mono ?_⟩
 rintro r V2 l2 gf
 have ZL:=gf
 obtain ⟨_,_,_,_,_,_,_,_,_,_,_,_,_,_,rfl⟩:=DN gf
 have JK:=l1.trans l2
 refine ⟨_,_,_,_,_,_,_,_,_,_,_,_,_,_,_,_,rfl,fun z V'=>∃(j:Nat)(s:Sp),z.1=(j:Int)/\j<=ls.length/\ED V' (SK z.2) s/\s.jj/\s.sz 100000/\dR L ls bj=dR L (ls.drop j) s,fun z=>(ls.length-z.1).toNat,⟨(0,_,_,_,_,_,_,_,_,_,_,_,_,_,_,_,_),by and_intros<;>first|rfl|trivial,0,bj,rfl,Nat.zero_le _,ZL,gy,GL (by omega),by rw [List.drop_zero]⟩,?_⟩
 rintro ⟨z,xb,xp,xn,xc,xq,xm,xe,yb,yp,yn,yc,yq,ym,ye,xa,ya⟩ V3 l3 ⟨j,s,ez,hj,gs,sg,ss,eg⟩
 dsimp only [SK] at ez gs ⊢
 subst ez
 obtain ⟨rfl,rfl,Lk,Lj⟩:=Yv gs
 have zY:=JK.trans l3
 refine ⟨by trivial,fun hlt=>?_,fun hlt WN Ft=>?_⟩
 rotate_left
 ·have e:j=ls.length:=by have:=of_decide_eq_false hlt;omega
  subst e
  rw [List.drop_length] at eg
  exact ⟨_,s,by rw [eg];rfl,gs.le Ft,ss,fun w e=>by rw [eg] at e;exact Option.some.inj e⟩
 have hlt:j<ls.length:=by have:=of_decide_eq_true hlt;omega
 have w1:i64.wrap ((j:Int)+1)=((j+1:Nat):Int):=by rw [ay (by omega)];rfl
 rw [w1,Int.toNat_natCast]
 obtain ⟨is2,B1,P1,N1,C1,B2,P2,N2,C2,B3,P3,N3,C3,A,ZS,A0,A1,A2,A3,A4,A5,hm1⟩:=pG (h.le zY fun _ _ g=>cd.le g zY) hlt
 have bm:=hb _ (List.getElem_mem hlt)
 have sm:=bm.kF
 have Fa:=iY bm
 have ej:j=i->ls[j]=L:=fun e=>by subst e;exact el
 have ed:ls.drop j=ls[j]::ls.drop (j+1):=List.drop_eq_getElem_cons hlt
 rw [ed] at eg
 generalize ls[j]=M at *
 have ZF:dR L (M::ls.drop (j+1)) s=if M=L then dR L (ls.drop (j+1)) s else match ph L M s with|some s'=>dR L (ls.drop (j+1)) s'|none=>none:=rfl
 rw [ZF] at eg
 have next:∀{W:View} {xb:Bool} {xp:OA} {xn xc:Nat} {xq:OA} {xm xe:Nat} {yb:Bool} {yp:OA} {yn yc:Nat} {yq:OA} {ym ye:Nat} {xa ya:Bool} {s':Sp},ED W (.agg #[.bool xb,.slice xp xn xc,.slice xq xm xe,.bool yb,.slice yp yn yc,.slice yq ym ye,.bool xa,.bool ya]) s'->s'.jj->s'.sz 100000->dR L ls bj=dR L (ls.drop (j+1)) s'->∃(j':Nat)(s:Sp),((j+1:Nat):Int)=(j':Int)/\j'<=ls.length/\ED W (.agg #[.bool xb,.slice xp xn xc,.slice xq xm xe,.bool yb,.slice yp yn yc,.slice yq ym ye,.bool xa,.bool ya]) s/\s.jj/\s.sz 100000/\dR L ls bj=dR L (ls.drop j') s:=fun g1 g2 g3 e=>⟨j+1,_,rfl,hlt,g1,g2,g3,e⟩
 refine ⟨is2,⟨by omega,by omega⟩,B1,P1,N1,C1,B2,P2,N2,C2,B3,P3,N3,C3,A,ZS,A0,A1,A2,A3,A4,A5,fun z _=>z=decide (M=L),⟨fun hz=>⟨true,by and_intros<;>rfl,?_⟩,fun hz V4 l4=>(CB (hl1.le (zY.trans l4)) (hm1.le l4) sl sm (by omega)).mono ?_⟩,?_⟩
 ·exact (decide_eq_true (ej (by have:=of_decide_eq_true hz;omega))).symm
 ·rintro r V5 l5 rfl
  exact ⟨_,rfl,(HO L M==(0:Int)),by and_intros<;>rfl,by rw [Jc];exact decide_eq_decide.2 eq_comm⟩
 rintro z V6 l6 rfl
 refine ⟨by trivial,fun hz=>?_,fun hz V7 l7=>(Pc (hl1.le (zY.trans (l6.trans l7))) (hm1.le (l6.trans l7)) sl sm (by omega)).mono ?_⟩
 ·rw [if_pos (of_decide_eq_true hz)] at eg
  exact ⟨(((j+1:Nat):Int),_,_,_,_,_,_,_,_,_,_,_,_,_,_,_,_),by dsimp only;omega,by and_intros<;>rfl,next (gs.le l6) sg ss eg⟩
 rw [if_neg (of_decide_eq_false hz)] at eg
 rintro r V8 l8 ⟨u,rfl,q0,q1⟩
 obtain ⟨s1,s2⟩:=MT sl sm
 have Mf:=l6.trans (l7.trans l8)
 by_cases hc:aU L M=0
 ·have qz:=q0 hc
  unfold M9 at qz
  subst qz
  rw [HR hc] at eg
  refine ⟨_,_,_,_,_,_,_,_,_,_,_,_,_,_,_,rfl,fun _ V9 l9=>(MA (hl1.le (zY.trans (Mf.trans l9))) nz bd).mono ?_,fun h=>by simp [hc] at h⟩
  rintro r jk l10 gB
  have T7:=gB
  obtain ⟨_,_,_,_,_,_,_,_,_,_,_,_,rfl,-⟩:=gB
  have Q4:=Mf.trans (l9.trans l10)
  refine ⟨_,_,_,_,_,_,_,_,_,_,_,_,_,_,rfl,fun jh bK=>(Bx (hm1.le (Q4.trans bK)) (T7.le bK) (sm.up (K:=30000) (by omega)) (KW bd).1 (KW bd).2 (by omega)).mono ?_⟩
  rintro r lS cg rfl
  have Q5:=Q4.trans (bK.trans cg)
  refine ⟨_,rfl,fun hz oR cK=>?_,fun hz=>?_⟩
  ·rw [if_pos (of_decide_eq_true hz)] at eg
   exact ⟨_,s,by rw [eg];rfl,gs.le (Q5.trans cK),ss,fun w e=>by rw [eg] at e;cases e⟩
  ·rw [if_neg (of_decide_eq_false hz)] at eg
   exact ⟨(((j+1:Nat):Int),_,_,_,_,_,_,_,_,_,_,_,_,_,_,_,_),by dsimp only;omega,by and_intros<;>rfl,next (gs.le Q5) sg ss eg⟩
 have hp:=q1 hc
 have hp0:=hp
 obtain ⟨_,_,_,_,_,_,_,_,_,_,_,_,rfl,-⟩:=hp
 refine ⟨_,_,_,_,_,_,_,_,_,_,_,_,_,_,_,rfl,fun h=>by simp [hc] at h,fun _ mP dN=>(MB (hl1.le (zY.trans (Mf.trans dN))) (hp0.le dN) nz (sl.up (K:=30000) (by omega)) (s1.mono (by omega)) (s2.mono (by omega)) (by omega)).mono ?_⟩
 rintro r lE dF gt
 have gt0:RQ lE r (lj L M):=gt
 obtain ⟨_,_,_,_,_,_,rfl⟩:=gt.shape
 have st:=Hg nz bd bm hc
 have Fp:=Mf.trans (dN.trans dF)
 refine ⟨_,_,_,_,_,_,_,rfl,fun lT dw=>(fo (hm1.le (Fp.trans dw)) sm.1 sm.2.1 sm.2.2 (by omega)).mono ?_⟩
 rintro r nk dj gm
 have SQ:=gm
 obtain ⟨_,_,_,_,_,_,_,_,_,_,_,_,rfl,-⟩:=gm
 have Fq:=Fp.trans (dw.trans dj)
 refine ⟨_,_,_,_,_,_,_,_,_,_,_,_,_,_,rfl,fun qn dB=>(fo (hl1.le (zY.trans (Fq.trans dB))) sl.1 sl.2.1 sl.2.2 (by omega)).mono ?_⟩
 rintro r tM dI gl
 have SP:=gl
 obtain ⟨_,_,_,_,_,_,_,_,_,_,_,_,rfl,-⟩:=gl
 have Vf:=Fq.trans (dB.trans dI)
 refine ⟨_,_,_,_,_,_,_,_,_,_,_,_,_,_,rfl,fun yW fF=>(xC (k:=1000) (SQ.le (dB.trans (dI.trans fF))) (SP.le fF) Fa.1 Fa.2 hd.1 hd.2 (by omega)).mono ?_⟩
 rintro r ug fr gc
 have PL:RQ ug r (d_ M L):=by
  have e:d_ M L=_:=(Om M L).symm
  rw [e];exact gc
 obtain ⟨_,_,_,_,_,_,rfl⟩:=gc.shape
 have Vg:=Vf.trans (fF.trans fr)
 refine ⟨_,_,_,_,_,_,_,rfl,fun tN il=>(uG (PL.le il)).mono ?_⟩
 rintro r xl fX rfl
 have Db:=Vg.trans (il.trans fX)
 have GQ:lE.Le xl:=(dw.trans dj).trans ((dB.trans dI).trans ((fF.trans fr).trans (il.trans fX)))
 refine ⟨_,rfl,fun z W=>ED W (SK z) (mj L M s),⟨fun hs=>?_,fun hs=>?_⟩,?_⟩
 ·have hs:0<(d_ M L).num.sign:=of_decide_eq_true hs
  refine ⟨fun z _=>z=decide (s.a=true\/s.lo<lj L M),⟨fun ha=>⟨true,by and_intros<;>rfl,?_⟩,fun ha IF mX=>(kP (gt0.le (GQ.trans mX)) (Lk.le (Db.trans mX)) st ss.1 (by omega)).mono ?_⟩,?_⟩
  ·exact (decide_eq_true (.inl ha)).symm
  ·rintro r Ht kh rfl
   refine ⟨_,rfl,decide (eR (lj L M) s.lo>(0:Int)),by and_intros<;>rfl,?_⟩
   rw [ha]
   exact decide_eq_decide.2 ⟨fun h=>.inr (GA.1 h),fun h=>h.elim (fun h=>nomatch h) GA.2⟩
  rintro z IV lQ rfl
  refine ⟨by trivial,fun hz=>⟨(_,_,_,_,_,_,_,_,_,_,_,_,_,_,_,_),by and_intros<;>rfl,?_⟩,fun hz=>⟨(_,_,_,_,_,_,_,_,_,_,_,_,_,_,_,_),by and_intros<;>rfl,?_⟩⟩
  ·have e:mj L M s=⟨lj L M,s.hi,false,s.b⟩:=by unfold mj;rw [if_pos hs,if_pos (of_decide_eq_true hz)]
   rw [e]
   exact R7 rfl rfl (gt0.le (GQ.trans lQ)) (Lj.le (Db.trans lQ))
  ·have e:mj L M s=s:=by unfold mj;rw [if_pos hs,if_neg (of_decide_eq_false hz)]
   rw [e]
   exact gs.le (Db.trans lQ)
 ·have hs:¬0<(d_ M L).num.sign:=of_decide_eq_false hs
  refine ⟨fun z _=>z=decide (s.b=true\/lj L M<s.hi),⟨fun ha=>⟨true,by and_intros<;>rfl,?_⟩,fun ha IF mX=>(kP (gt0.le (GQ.trans mX)) (Lj.le (Db.trans mX)) st ss.2 (by omega)).mono ?_⟩,?_⟩
  ·exact (decide_eq_true (.inl ha)).symm
  ·rintro r Ht kh rfl
   refine ⟨_,rfl,decide (eR (lj L M) s.hi<(0:Int)),by and_intros<;>rfl,?_⟩
   rw [ha]
   exact decide_eq_decide.2 ⟨fun h=>.inr (mS.1 h),fun h=>h.elim (fun h=>nomatch h) mS.2⟩
  rintro z IV lQ rfl
  refine ⟨by trivial,fun hz=>⟨(_,_,_,_,_,_,_,_,_,_,_,_,_,_,_,_),by and_intros<;>rfl,?_⟩,fun hz=>⟨(_,_,_,_,_,_,_,_,_,_,_,_,_,_,_,_),by and_intros<;>rfl,?_⟩⟩
  ·have e:mj L M s=⟨s.lo,lj L M,s.a,false⟩:=by unfold mj;rw [if_neg hs,if_pos (of_decide_eq_true hz)]
   rw [e]
   exact R7 rfl rfl (Lk.le (Db.trans lQ)) (gt0.le (GQ.trans lQ))
  ·have e:mj L M s=s:=by unfold mj;rw [if_neg hs,if_neg (of_decide_eq_false hz)]
   rw [e]
   exact gs.le (Db.trans lQ)
 rw [zL hc] at eg
 have kk:=fun w=>Jk (w:=w) nz bd bm sg ss
 rw [zL hc] at kk
 have sz:=O1 nz bd bm hc ss
 generalize mj L M s=s' at *
 clear gs Lk Lj
 rintro ⟨xb,xp,xn,xc,xq,xm,xe,yb,yp,yn,yc,yq,ym,ye,xa,ya⟩ Lt Bc gs
 dsimp only [SK] at gs ⊢
 obtain ⟨rfl,rfl,Lk,Lj⟩:=Yv gs
 refine ⟨by trivial,fun z _=>z=decide (s'.a=false/\s'.b=false/\s'.hi<=s'.lo),⟨fun ha=>⟨fun hb SI Fo=>(kP (Lk.le Fo) (Lj.le Fo) sz.1 sz.2 (by omega)).mono ?_,fun hb=>⟨false,by and_intros<;>rfl,?_⟩⟩,fun ha=>⟨false,by and_intros<;>rfl,?_⟩⟩,?_⟩
 ·rintro r SJ Fs rfl
  rw [Bool.not_eq_true'] at ha hb
  refine ⟨_,rfl,decide (eR s'.lo s'.hi≥(0:Int)),by and_intros<;>rfl,decide_eq_decide.2 ⟨fun h=>⟨ha,hb,?_⟩,fun h=>?_⟩⟩
  ·refine Rat.not_lt.1 fun g=>?_
   have:=mS.2 g;omega
  ·refine Int.not_lt.1 fun g=>?_
   have:=mS.1 g
   have:=h.2.2
   grind
 ·rw [Bool.not_eq_false'] at hb
  exact (decide_eq_false fun h=>by rw [hb] at h;cases h.2.1).symm
 ·rw [Bool.not_eq_false'] at ha
  exact (decide_eq_false fun h=>by rw [ha] at h;cases h.1).symm
 rintro z P4 xR rfl
 refine ⟨by trivial,fun hz Tx IM=>?_,fun hz=>?_⟩
 ·rw [if_pos (of_decide_eq_true hz)] at eg
  exact ⟨_,s',by rw [eg];rfl,gs.le (xR.trans IM),sz,fun w e=>by rw [eg] at e;cases e⟩
 ·rw [if_neg (of_decide_eq_false hz)] at eg kk
  obtain ⟨k1,k2⟩:=kk _ rfl
  exact ⟨(((j+1:Nat):Int),_,_,_,_,_,_,_,_,_,_,_,_,_,_,_,_),by dsimp only;omega,by and_intros<;>rfl,next (gs.le xR) k1 k2 eg⟩
theorem xE {V:View}{lp:OA}{ln lc:Nat}{ls:List L3}{pv vv:Value}{p v:Rat×Rat}(h:cI 6 cd V lp ln ls)(hb:∀l∈ls,Bd l)(hl:ls.length<=1000)(hp:RP V pv p.1 p.2)(hv:RP V vv v.1 v.2)(s1:Sz 60000000 p.1)(s2:Sz 60000000 p.2)(s3:Sz 6000 v.1)(s4:Sz 6000 v.2) :
  ab prog 118 #[.slice lp ln lc,pv,vv] V fun r V'=>RP V' r (p.1+ls.foldl (aq.Bi p v) 1*v.1) (p.2+ls.foldl (aq.Bi p v) 1*v.2)/\Sz 500000000 (p.1+ls.foldl (aq.Bi p v) 1*v.1)/\Sz 500000000 (p.2+ls.foldl (aq.Bi p v) 1*v.2):=by
 have hn:=h.len
 subst hn
 have hp0:=hp
 have hv0:=hv
 obtain ⟨_,_,_,_,_,_,_,_,_,_,_,_,rfl,-⟩:=hp
 obtain ⟨_,_,_,_,_,_,_,_,_,_,_,_,rfl,-⟩:=hv
 refine yG lp ls.length lc _ _ _ _ _ _ _ _ _ _ _ _ _ _ _ _ _ _ _ _ _ _ _ _ _ _ _ _ V _ fun V1 l1=>(dY 1 (by omega) (by omega)).mono ?_
 rintro r V2 l2 g
 have g0:=g
 obtain ⟨_,_,_,_,_,_,rfl⟩:=g.shape
 have JK:=l1.trans l2
 refine ⟨_,_,_,_,_,_,_,rfl,fun z V'=>∃i:Nat,z.1=(i:Int)/\i<=ls.length/\RQ V' (.agg #[.bool z.2.1,.slice z.2.2.1 z.2.2.2.1 z.2.2.2.2.1,.slice z.2.2.2.2.2.1 z.2.2.2.2.2.2.1 z.2.2.2.2.2.2.2]) ((ls.take i).foldl (aq.Bi p v) 1)/\Sz 400000000 ((ls.take i).foldl (aq.Bi p v) 1),fun z=>(ls.length-z.1).toNat,⟨(0,_,_,_,_,_,_,_),by and_intros<;>first|rfl|trivial,0,rfl,Nat.zero_le _,g0,t_.mono (by omega)⟩,?_⟩
 rintro ⟨z,zb,zp,zn,zc,zq,zm,ze⟩ V3 l3 ⟨i,e,hi,gs,ss⟩
 dsimp only at e gs ⊢
 subst e
 have zY:=JK.trans l3
 refine ⟨by trivial,fun hlt=>?_,fun hlt SJ Fs=>?_⟩
 ·have hlt:i<ls.length:=by have:=of_decide_eq_true hlt;omega
  have w1:i64.wrap ((i:Int)+1)=((i+1:Nat):Int):=by rw [ay (by omega)];rfl
  rw [w1,Int.toNat_natCast]
  obtain ⟨is,b1,p1,n1,c1,b2,p2,n2,c2,b3,p3,n3,c3,a,had,a0,a1,a2,a3,a4,a5,hl1⟩:=pG (h.le zY fun _ _ g=>cd.le g zY) hlt
  have bd:=hb _ (List.getElem_mem hlt)
  have sl:=bd.kF
  have et:=Ke (p:=p) (v:=v) hlt 1
  generalize ls[i]=A at *
  generalize (ls.take i).foldl (aq.Bi p v) 1=s at *
  have next:∀{W:View} {b:Bool} {q1 q2:OA} {m1 d1 m2 d2:Nat} {s':Rat},RQ W (.agg #[.bool b,.slice q1 m1 d1,.slice q2 m2 d2]) s'->Sz 400000000 s'->aq.Bi p v s A=s'->∃i':Nat,((i+1:Nat):Int)=(i':Int)/\i'<=ls.length/\RQ W (.agg #[.bool b,.slice q1 m1 d1,.slice q2 m2 d2]) ((ls.take i').foldl (aq.Bi p v) 1)/\Sz 400000000 ((ls.take i').foldl (aq.Bi p v) 1):=fun g1 g2 e=>⟨i+1,rfl,hlt,by rw [et,e];exact g1,by rw [et,e];exact g2⟩
  have t1:Sz 70000000 (p.1+((1:Int):Rat)*v.1):=(s1.add (t_.mul s3)).mono (by omega)
  have t2:Sz 70000000 (p.2+((1:Int):Rat)*v.2):=(s2.add (t_.mul s4)).mono (by omega)
  refine ⟨is,⟨by omega,by omega⟩,b1,p1,n1,c1,b2,p2,n2,c2,b3,p3,n3,c3,a,had,a0,a1,a2,a3,a4,a5,fun V4 l4=>(dY 1 (by omega) (by omega)).mono ?_⟩
  rintro r V5 l5 g
  have g0:=g
  obtain ⟨_,_,_,_,_,_,rfl⟩:=g.shape
  have Ft:=l4.trans l5
  refine ⟨_,_,_,_,_,_,_,rfl,fun V6 l6=>(gQ (hp0.le (zY.trans (Ft.trans l6))) (g0.le l6) (hv0.le (zY.trans (Ft.trans l6))) s1 s2 (t_.mono (by omega)) s3 s4 (by omega)).mono ?_⟩
  rintro r V7 l7 gq
  have Oy:=gq
  obtain ⟨_,_,_,_,_,_,_,_,_,_,_,_,rfl,-⟩:=gq
  have NA:=Ft.trans (l6.trans l7)
  refine ⟨_,_,_,_,_,_,_,_,_,_,_,_,_,_,rfl,fun V8 l8=>(gK (k:=70000000) (hl1.le (NA.trans l8)) (Oy.le l8) (sl.1.mono (by omega)) (sl.2.1.mono (by omega)) (sl.2.2.mono (by omega)) t1 t2 (by omega)).mono ?_⟩
  rintro r V9 l9 gA
  have T6:RQ V9 r (ar A (p.1+((1:Int):Rat)*v.1) (p.2+((1:Int):Rat)*v.2)):=gA
  obtain ⟨_,_,_,_,_,_,rfl⟩:=gA.shape
  have Mg:=NA.trans (l8.trans l9)
  refine ⟨_,_,_,_,_,_,_,rfl,fun jk l10=>(gK (k:=70000000) (hl1.le (Mg.trans l10)) (hp0.le (zY.trans (Mg.trans l10))) (sl.1.mono (by omega)) (sl.2.1.mono (by omega)) (sl.2.2.mono (by omega)) (s1.mono (by omega)) (s2.mono (by omega)) (by omega)).mono ?_⟩
  rintro r jh bK gB
  have T7:RQ jh r (ar A p.1 p.2):=gB
  obtain ⟨_,_,_,_,_,_,rfl⟩:=gB.shape
  have zA:=Sc bd (p:=((p.1+((1:Int):Rat)*v.1),(p.2+((1:Int):Rat)*v.2))) t1 t2
  have zB:=Sc bd s1 s2
  have Vd:=Mg.trans (l10.trans bK)
  refine ⟨_,_,_,_,_,_,_,rfl,fun lS cg=>(gx (T6.le (l10.trans (bK.trans cg))) (T7.le cg) zA zB (by omega)).mono ?_⟩
  rintro r oR cK gc
  have ec:ar A (p.1+((1:Int):Rat)*v.1) (p.2+((1:Int):Rat)*v.2)-ar A p.1 p.2=aq.nv A v:=by
   have:=aq.gO A p v 1
   have e1:((1:Int):Rat)=1:=rfl
   rw [e1,this];grind
  have zc:=zA.sub zB
  dsimp only at zc
  rw [ec] at gc zc
  have PL:=gc
  obtain ⟨_,_,_,_,_,_,rfl⟩:=gc.shape
  have Ve:=Vd.trans (cg.trans cK)
  refine ⟨_,_,_,_,_,_,_,rfl,fun mP dN=>(uG (PL.le dN)).mono ?_⟩
  rintro r lE dF rfl
  have Fp:=Ve.trans (dN.trans dF)
  refine ⟨_,rfl,fun c0=>⟨(((i+1:Nat):Int),_,_,_,_,_,_,_),by dsimp only;omega,by and_intros<;>first|rfl|trivial,next (gs.le Fp) ss ?_⟩,fun c0 lT dw=>(Bx (x:=p.1) (y:=p.2) (hl1.le (Fp.trans dw)) (hp0.le (zY.trans (Fp.trans dw))) ⟨sl.1.mono (Nat.le_trans (by omega) (Nat.le_refl 60000000)),sl.2.1.mono (by omega),sl.2.2.mono (by omega)⟩ s1 s2 (by omega)).mono ?_⟩
  ·unfold aq.Bi;rw [if_pos (.inl (aq.fe.1 (beq_iff_eq.1 c0)))]
  have c0:aq.nv A v≠0:=fun e=>by rw [aq.fe.2 e] at c0;cases c0
  rintro r nk dj rfl
  have Fq:=Fp.trans (dw.trans dj)
  refine ⟨_,rfl,fun v0=>⟨(((i+1:Nat):Int),_,_,_,_,_,_,_),by dsimp only;omega,by and_intros<;>first|rfl|trivial,next (gs.le Fq) ss ?_⟩,fun v0 qn dB=>(gK (k:=70000000) (hl1.le (Fq.trans dB)) (hp0.le (zY.trans (Fq.trans dB))) (sl.1.mono (by omega)) (sl.2.1.mono (by omega)) (sl.2.2.mono (by omega)) (s1.mono (by omega)) (s2.mono (by omega)) (by omega)).mono ?_⟩
  ·unfold aq.Bi;rw [if_pos (.inr (aq.fe.1 (beq_iff_eq.1 v0)))]
  have v0:ar A p.1 p.2≠0:=fun e=>by rw [aq.fe.2 e] at v0;cases v0
  have ns:¬(aq.nv A v=0\/ar A p.1 p.2=0):=fun h=>h.elim c0 v0
  rintro r tM dI gD
  have ZI:RQ tM r (ar A p.1 p.2):=gD
  obtain ⟨_,_,_,_,_,_,rfl⟩:=gD.shape
  refine ⟨_,_,_,_,_,_,_,rfl,fun yW fF=>(gj (ZI.le fF) (PL.le (dN.trans (dF.trans (dw.trans (dj.trans (dB.trans (dI.trans fF))))))) (fun e=>c0 (Rat.num_eq_zero.1 e)) zB zc (by omega)).mono ?_⟩
  rintro r ug fr gt
  have gt0:=gt
  obtain ⟨_,_,_,_,_,_,rfl⟩:=gt.shape
  have zt:=(zB.mul (dh zc)).neg
  refine ⟨_,_,_,_,_,_,_,rfl,fun tN il=>(EU (gt0.le il)).mono ?_⟩
  rintro r xl fX go
  have go0:=go
  obtain ⟨_,_,_,_,_,_,rfl⟩:=go.shape
  have Db:=Fq.trans (dB.trans (dI.trans (fF.trans (fr.trans (il.trans fX)))))
  refine ⟨_,_,_,_,_,_,_,rfl,fun IF mX=>(uG (go0.le mX)).mono ?_⟩
  rintro r Ht kh rfl
  have Q6:=Db.trans (mX.trans kh)
  have eh:-(ar A p.1 p.2*(aq.nv A v)⁻¹)*((2:Int):Rat)⁻¹=-(ar A p.1 p.2*(aq.nv A v)⁻¹)*(1 / 2):=by rw [show (((2:Int):Rat))⁻¹=1 / 2 by decide +kernel]
  have zh:Sz 400000000 (-(ar A p.1 p.2*(aq.nv A v)⁻¹)*((2:Int):Rat)⁻¹):=(zt.mul (dh (Ez (z:=2) (by omega)))).mono (by omega)
  refine ⟨_,rfl,fun g1 IV lQ=>(nW (go0.le (mX.trans (kh.trans lQ))) zt (by omega)).mono ?_,fun g1=>⟨(((i+1:Nat):Int),_,_,_,_,_,_,_),by dsimp only;omega,by and_intros<;>first|rfl|trivial,next (gs.le Q6) ss ?_⟩⟩
  ·have g1:-(ar A p.1 p.2*(aq.nv A v)⁻¹)>0:=aq.my.1 (of_decide_eq_true g1)
   rintro r Nc lf gh
   have ZM:=gh
   obtain ⟨_,_,_,_,_,_,rfl⟩:=gh.shape
   have Q7:=Q6.trans (lQ.trans lf)
   refine ⟨_,_,_,_,_,_,_,rfl,fun Nf vx=>(kP (ZM.le vx) (gs.le (Q7.trans vx)) zh ss (by omega)).mono ?_⟩
   rintro r PH zZ rfl
   refine ⟨_,rfl,fun g2 Lt Bc=>(nW (go0.le (mX.trans (kh.trans (lQ.trans (lf.trans (vx.trans (zZ.trans Bc))))))) zt (by omega)).mono ?_,fun g2=>⟨(((i+1:Nat):Int),_,_,_,_,_,_,_),by dsimp only;omega,by and_intros<;>first|rfl|trivial,next (gs.le (Q7.trans (vx.trans zZ))) ss ?_⟩⟩
   ·have g2:=mS.1 (of_decide_eq_true g2)
    rintro r SI Fo gk
    have ZN:=gk
    obtain ⟨_,_,_,_,_,_,rfl⟩:=gk.shape
    refine ⟨_,_,_,_,_,_,_,rfl,(((i+1:Nat):Int),_,_,_,_,_,_,_),by dsimp only;omega,by and_intros<;>first|rfl|trivial,next ZN zh ?_⟩
    rw [eh] at g2 ⊢
    unfold aq.Bi;rw [if_neg ns,if_pos ⟨g1,g2⟩]
   ·have g2:¬_:=fun h=>of_decide_eq_false g2 (mS.2 h)
    rw [eh] at g2
    unfold aq.Bi;rw [if_neg ns,if_neg fun h=>g2 h.2]
  ·have g1:¬_:=fun h=>of_decide_eq_false g1 (aq.my.2 h)
   unfold aq.Bi;rw [if_neg ns,if_neg fun h=>g1 h.1]
 ·have hlt:i=ls.length:=by have:=of_decide_eq_false hlt;omega
  subst hlt
  rw [List.take_length] at gs ss
  generalize ls.foldl (aq.Bi p v) 1=s at *
  refine (gQ (hp0.le (zY.trans Fs)) (gs.le Fs) (hv0.le (zY.trans Fs)) s1 s2 ss (s3.mono (by omega)) (s4.mono (by omega)) (by omega)).mono ?_
  rintro r P4 xR gq
  have Oy:=gq
  obtain ⟨_,_,_,_,_,_,_,_,_,_,_,_,rfl,-⟩:=gq
  exact ⟨_,_,_,_,_,_,_,_,_,_,_,_,_,_,rfl,fun Tx IM=>⟨Oy.le IM,(s1.add (ss.mul s3)).mono (by omega),(s2.add (ss.mul s4)).mono (by omega)⟩⟩
def vi (c:List Sd)(p:Rat×Rat):Bool:=c.all fun s=>decide (0<=ar s.1 p.1 p.2)
def Ma (c:List Sd)(p:Rat×Rat):Bool:=c.all fun s=>decide (0<ar s.1 p.1 p.2)
theorem KN (q:Rat):q.num.sign<0↔¬0<=q:=by
 have:=@aq.DO q
 constructor
 ·intro h;have:=this.1 h;grind
 ·intro h;exact this.2 (by grind)
theorem KM (q:Rat):q.num.sign<=0↔¬0<q:=by
 have:=@aq.my q
 constructor
 ·intro h h';have:=this.2 h';omega
 ·intro h;by_cases c:q.num.sign>0
  ·exact absurd (this.1 c) h
  ·omega
theorem EL {V:View}{p:OA}{n c:Nat}{cs:List Sd}{pv:Value}{x:Rat×Rat}(h:cI 17 fE V p n cs)(hp:nE V pv x.1 x.2)(s1:Sz 1000000000 x.1)(s2:Sz 1000000000 x.2)(hn:cs.length<=100000) :
  ab prog 116 #[.slice p n c,pv] V fun r V'=>r=.bool (vi cs x):=by
 have hp0:=hp
 obtain rfl:=h.len
 obtain ⟨_,_,_,_,_,_,rfl,-,-⟩:=hp
 refine te p _ c _ _ _ _ _ _ V _ ⟨fun z V'=>∃j:Nat,z=(j:Int)/\j<=cs.length/\vi (cs.take j) x=true,fun z=>cs.length-z.toNat,⟨0,by and_intros<;>rfl,0,rfl,Nat.zero_le _,rfl⟩,?_⟩
 rintro z1 V1 l1 ⟨j,rfl,H7,hall⟩
 refine ⟨rfl,fun hlt=>?_,fun hlt V4 l4=>?_⟩
 ·have hlt:(j:Int)<cs.length:=of_decide_eq_true hlt
  have hi:j<cs.length:=by omega
  have w:i64.wrap ((j:Int)+1)=((j+1:Nat):Int):=by rw [ay (by omega)];rfl
  rw [Int.toNat_natCast,w]
  obtain ⟨ps,a1,a2,a3,a4,a5,a6,a7,a8,a9,b1,b2,b3,b4,b5,b6,a,ha,k0,k1,k2,k3,k4,k5,k6,k7,k8,k9,k10,k11,k12,k13,k14,k15,k16,hr⟩:=im (h.le l1 fun _ _ g=>fE.le g l1) hi
  obtain ⟨rl,-,-,-⟩:=hr.both
  refine ⟨ps,⟨by omega,by omega⟩,_,_,_,_,_,_,_,_,_,_,_,_,_,_,_,_,_,a,ha,k0,k1,k2,k3,k4,k5,k6,k7,k8,k9,k10,k11,k12,k13,k14,k15,k16,fun V2 l2=>(Fl (rl.le l2) (hp0.le (l1.trans l2)) (hr.2.1.kF.up (by omega)) s1 s2 (by omega)).mono ?_⟩
  rintro r V3 l3 rfl
  refine ⟨_,rfl,fun hc V4 l4=>?_,fun hc=>⟨((j+1:Nat):Int),by dsimp only;omega,by and_intros<;>rfl,j+1,rfl,hi,?_⟩⟩
  ·have hc:=(KN _).1 (of_decide_eq_true hc)
   have e:vi cs x=false:=by
    unfold vi
    rw [List.all_eq_false]
    exact ⟨_,List.getElem_mem hi,by simpa using hc⟩
   rw [e]
  ·have hc:¬_:=fun h=>of_decide_eq_false hc ((KN _).2 h)
   have hc:=Classical.not_not.1 hc
   unfold vi at hall ⊢
   rw [List.take_add_one,List.getElem?_eq_getElem hi,List.all_append,hall]
   simpa using hc
 ·have hlt:¬(j:Int)<cs.length:=of_decide_eq_false hlt
  obtain rfl:j=cs.length:=by omega
  rw [List.take_length] at hall
  rw [hall]
theorem xo {V:View}{p:OA}{n c:Nat}{cs:List Sd}{pv:Value}{x:Rat×Rat}(h:cI 17 fE V p n cs)(hp:nE V pv x.1 x.2)(s1:Sz 1000000000 x.1)(s2:Sz 1000000000 x.2)(hn:cs.length<=100000) :
  ab prog 117 #[.slice p n c,pv] V fun r V'=>r=.bool (Ma cs x):=by
 have hp0:=hp
 obtain rfl:=h.len
 obtain ⟨_,_,_,_,_,_,rfl,-,-⟩:=hp
 refine oF p _ c _ _ _ _ _ _ V _ ⟨fun z V'=>∃j:Nat,z=(j:Int)/\j<=cs.length/\Ma (cs.take j) x=true,fun z=>cs.length-z.toNat,⟨0,by and_intros<;>rfl,0,rfl,Nat.zero_le _,rfl⟩,?_⟩
 rintro z1 V1 l1 ⟨j,rfl,H7,hall⟩
 refine ⟨rfl,fun hlt=>?_,fun hlt V4 l4=>?_⟩
 ·have hlt:(j:Int)<cs.length:=of_decide_eq_true hlt
  have hi:j<cs.length:=by omega
  have w:i64.wrap ((j:Int)+1)=((j+1:Nat):Int):=by rw [ay (by omega)];rfl
  rw [Int.toNat_natCast,w]
  obtain ⟨ps,a1,a2,a3,a4,a5,a6,a7,a8,a9,b1,b2,b3,b4,b5,b6,a,ha,k0,k1,k2,k3,k4,k5,k6,k7,k8,k9,k10,k11,k12,k13,k14,k15,k16,hr⟩:=im (h.le l1 fun _ _ g=>fE.le g l1) hi
  obtain ⟨rl,-,-,-⟩:=hr.both
  refine ⟨ps,⟨by omega,by omega⟩,_,_,_,_,_,_,_,_,_,_,_,_,_,_,_,_,_,a,ha,k0,k1,k2,k3,k4,k5,k6,k7,k8,k9,k10,k11,k12,k13,k14,k15,k16,fun V2 l2=>(Fl (rl.le l2) (hp0.le (l1.trans l2)) (hr.2.1.kF.up (by omega)) s1 s2 (by omega)).mono ?_⟩
  rintro r V3 l3 rfl
  refine ⟨_,rfl,fun hc V4 l4=>?_,fun hc=>⟨((j+1:Nat):Int),by dsimp only;omega,by and_intros<;>rfl,j+1,rfl,hi,?_⟩⟩
  ·have hc:=(KM _).1 (of_decide_eq_true hc)
   have e:Ma cs x=false:=by
    unfold Ma
    rw [List.all_eq_false]
    exact ⟨_,List.getElem_mem hi,by simpa using hc⟩
   rw [e]
  ·have hc:¬_:=fun h=>of_decide_eq_false hc ((KM _).2 h)
   have hc:=Classical.not_not.1 hc
   unfold Ma at hall ⊢
   rw [List.take_add_one,List.getElem?_eq_getElem hi,List.all_append,hall]
   simpa using hc
 ·have hlt:¬(j:Int)<cs.length:=of_decide_eq_false hlt
  obtain rfl:j=cs.length:=by omega
  rw [List.take_length] at hall
  rw [hall]
theorem xu {V:View}{p:OA}{n c:Nat}{ls:List L3}(h:cI 6 oO V p n ls)(hb:∀l∈ls,Bd l){lv:Value}{l:L3}(hl:cd V lv l)(hbl:Bd l)(hok:cS l=true){yi ye yu:Value}(E:Er V yi ye yu) :
  ab prog 77 #[.agg #[.slice p n c],lv] V fun r V'=>∃w,ue V' w l/\Ce ls (r=.tuple #[.slice none 0 0,w,yi]) (r=.tuple #[.slice none 0 0,w,ye]) fun cs=>(∃q m e,r=.tuple #[.slice q m e,w,.nilIface]/\cI 17 fE V' q m cs/\m<=e)/\iE ls.reverse cs/\cs.length<=100000:=by
 have hl0:=hl
 obtain ⟨_,_,_,_,_,_,_,_,_,_,_,_,rfl⟩:=bJ hl
 refine wu p n c _ _ _ _ _ _ _ _ _ _ _ _ V _ fun V1 l1=>(rM (x:=l) (hl0.le l1) hbl).mono ?_
 rintro r V2 l2 ⟨w,rfl,⟨_,_,_,_,_,_,_,_,_,rfl⟩,hw⟩
 have hw:=hw hok
 rw [hok]
 refine ⟨_,_,_,_,_,_,_,_,_,_,rfl,(fun hf=>by cases hf),fun _ V4 l4=>(gH (h.le (l1.trans (l2.trans l4)) fun _ _ g=>oO.le g (l1.trans (l2.trans l4))) hb (E.le (l1.trans (l2.trans l4)))).mono ?_⟩
 rintro r V5 l5 (⟨ho,rfl⟩|⟨ho,hc,rfl⟩|⟨ho,cs,hc,⟨q,m,e,rfl,hL,hm⟩,hC,hl⟩)
 ·exact ⟨_,_,_,_,rfl,fun V6 l6=>⟨_,tK.le hw (l4.trans (l5.trans l6)),.inl ⟨ho,rfl⟩⟩⟩
 ·exact ⟨_,_,_,_,rfl,fun V6 l6=>⟨_,tK.le hw (l4.trans (l5.trans l6)),.inr (.inl ⟨ho,hc,rfl⟩)⟩⟩
 ·exact ⟨_,_,_,_,rfl,fun V6 l6=>⟨_,tK.le hw (l4.trans (l5.trans l6)),.inr (.inr ⟨ho,cs,hc,⟨_,_,_,rfl,hL.le l6 fun _ _ g=>fE.le g l6,hm⟩,hC,hl⟩)⟩⟩
theorem uB {V:View}{p:OA}{n c:Nat}{ls:List L3}(h:cI 6 oO V p n ls)(hb:∀l∈ls,Bd l){lv:Value}{l:L3}(hl:cd V lv l)(hbl:Bd l)(hok:cS l=true){yi ye yu:Value}(E:Er V yi ye yu) :
  ab prog 22 #[.agg #[.slice p n c],lv] V fun r V'=>Ce ls (r=.tuple #[.int .i64 0,yi]) (r=.tuple #[.int .i64 0,ye]) fun cs=>r=.tuple #[.int .i64 (Lm cs l),.nilIface]:=by
 have hl0:=hl
 obtain ⟨_,_,_,_,_,_,_,_,_,_,_,_,rfl⟩:=bJ hl
 refine sW p n c _ _ _ _ _ _ _ _ _ _ _ _ V _ fun V1 l1=>(xu (h.le l1 fun _ _ g=>oO.le g l1) hb (hl0.le l1) hbl hok (E.le l1)).mono ?_
 rintro r V2 l2 ⟨w,hw,(⟨ho,rfl⟩|⟨ho,hc,rfl⟩|⟨ho,cs,hc,⟨q,m,e,rfl,hL,hm⟩,hC,hl⟩)⟩
 ·obtain ⟨i1,i2⟩:=rU E.si
  obtain ⟨_,_,_,_,_,_,_,_,_,rfl,-⟩:=hw
  exact ⟨_,_,_,_,_,_,_,_,_,_,_,_,_,rfl,i1,fun _ V3 l3=>.inl ⟨ho,rfl⟩,fun hf=>by rw [i2] at hf;cases hf⟩
 ·obtain ⟨i1,i2⟩:=rU E.se
  obtain ⟨_,_,_,_,_,_,_,_,_,rfl,-⟩:=hw
  exact ⟨_,_,_,_,_,_,_,_,_,_,_,_,_,rfl,i1,fun _ V3 l3=>.inr (.inl ⟨ho,hc,rfl⟩),fun hf=>by rw [i2] at hf;cases hf⟩
 ·have hw0:=hw
  obtain ⟨_,_,_,_,_,_,_,_,_,rfl,-⟩:=hw
  refine ⟨_,_,_,_,_,_,_,_,_,_,_,_,_,rfl,ij.1,(fun hf=>by cases hf),fun _ V4 l4=>(oU (hL.le l4 fun _ _ g=>fE.le g l4) (hw0.le l4) hbl (by omega)).mono ?_⟩
  rintro r V5 l5 rfl
  exact ⟨_,rfl,fun V6 l6=>.inr (.inr ⟨ho,cs,hc,rfl⟩)⟩
def HM (cs:List Sd)(x:Rat×Rat):Int:=if vi cs x=true then (if Ma cs x=true then 2 else 1) else 0
theorem uA {V:View}{p:OA}{n c:Nat}{ls:List L3}(h:cI 6 oO V p n ls)(hb:∀l∈ls,Bd l){pv:Value}{x:Rat×Rat}(hp:IE V pv x)(s1:Sz 1000000000 x.1)(s2:Sz 1000000000 x.2){yi ye yu:Value}(E:Er V yi ye yu) :
  ab prog 50 #[.agg #[.slice p n c],pv] V fun r V'=>Ce ls (r=.tuple #[.int .i64 0,yi]) (r=.tuple #[.int .i64 0,.nilIface]) fun cs=>r=.tuple #[.int .i64 (HM cs x),.nilIface]:=by
 have hp0:=hp
 obtain ⟨⟨_,_,_,_,_,_,_,_,_,_,_,_,_,_,rfl⟩,-⟩:=hp
 refine sU p n c _ _ _ _ _ _ _ _ _ _ _ _ _ _ V _ fun V1 l1=>(zv (h.le l1 fun _ _ g=>oO.le g l1) hb).mono ?_
 rintro r V2 l2 ⟨q,m,e,rfl,g⟩
 have L2:=l1.trans l2
 refine ⟨_,_,_,_,rfl,fun ho=>⟨yi,⟨_,rfl,(E.le L2).inv⟩,fun V3 l3=>.inl ⟨by simpa using ho,rfl⟩⟩,fun ho V4 l4=>?_⟩
 have ho:xT ls=true:=by simpa using ho
 have hg:=g ho
 refine (oY (hg.le l4 fun _ _ g=>yV.le g l4) (mZ ho).2 (by have:=(mZ ho).1;omega)).mono ?_
 rintro r V5 l5 ⟨q',m',e',rfl,hn,hs⟩
 refine ⟨_,_,_,_,rfl,fun V6 l6=>(hp0.2 V6 (L2.trans (l4.trans (l5.trans l6)))).mono ?_⟩
 rintro r V7 l7 gp
 have PM:=gp
 obtain ⟨_,_,_,_,_,_,rfl,-,-⟩:=gp
 refine ⟨_,_,_,_,_,_,rfl,fun hf V8 l8=>?_,fun hf V9 l9=>?_⟩
 ·have hf:bq ls [] []=none:=by simpa using hf
  exact .inr (.inl ⟨ho,hf,rfl⟩)
 ·have hf:(bq ls [] []).isSome=true:=by simpa using hf
  obtain ⟨cs,hc⟩:=Option.isSome_iff_exists.1 hf
  obtain ⟨hL,-⟩:=hs cs hc
  have hl:=uN hc ho
  have SZ:=l6.trans (l7.trans l9)
  refine (EL (hL.le SZ fun _ _ g=>fE.le g SZ) (PM.le l9) s1 s2 hl).mono ?_
  rintro r jk l10 rfl
  refine ⟨_,rfl,fun h1 jh bK=>?_,fun h1 lS cg=>(xo (hL.le (SZ.trans (l10.trans cg)) fun _ _ g=>fE.le g (SZ.trans (l10.trans cg))) (PM.le (l9.trans (l10.trans cg))) s1 s2 hl).mono ?_⟩
  ·have h1:vi cs x=false:=by simpa using h1
   refine .inr (.inr ⟨ho,cs,hc,?_⟩)
   unfold HM
   dsimp only
   rw [if_neg (by rw [h1];exact Bool.false_ne_true)]
  ·have h1:vi cs x=true:=by simpa using h1
   rintro r oR cK rfl
   refine ⟨_,rfl,fun h2 mP dN=>.inr (.inr ⟨ho,cs,hc,?_⟩),fun h2 lE dF=>.inr (.inr ⟨ho,cs,hc,?_⟩)⟩
   ·unfold HM
    dsimp only
    rw [if_pos h1,if_pos h2]
   ·unfold HM
    dsimp only
    rw [if_pos h1,if_neg (by rw [h2];exact Bool.false_ne_true)]
end Go.Proofs.Tryz
namespace Go.Proofs.Tryz
open Go.bM
set_option maxRecDepth 100000
end Go.Proofs.Tryz
namespace Go.Proofs.Tryz
open Go.bM Go.fB
theorem KI {V:View}{vs:List Value}{ls:List L3}(h:Row 6 cd V vs ls)(hl:vs.length=ls.length*6):∀v∈vs,v.oneCell'=true:=by
 intro v hv
 obtain ⟨m,hm,e⟩:=List.mem_iff_getElem.1 hv
 exact pR h (by decide) (fun _ _=>MI) (m:=m) (by omega) (by rw [←e];exact List.getElem?_eq_getElem hm)
def ny (ls:List L3):Bool:=decide (ls=[]\/∃l∈ls,(dR l ls bj).isSome=true)
theorem vo {ls:List L3}(hk:∀m∈ls,cS m=true):ny ls=true↔∃q,aq.pos ls q:=by
 unfold ny
 rw [decide_eq_true_eq,←H5 hk]
 refine or_congr Iff.rfl ⟨fun ⟨l,h1,h2⟩=>⟨l,h1,(tS (Bj (hk l h1))).1 h2⟩,fun ⟨l,h1,h2⟩=>⟨l,h1,(tS (Bj (hk l h1))).2 h2⟩⟩
theorem G_ (V:View):RP V (.agg #[.bool false,.slice none 0 0,.slice none 0 0,.bool false,.slice none 0 0,.slice none 0 0]) 0 0:=⟨_,_,_,_,_,_,_,_,_,_,_,_,rfl,S5 _,S5 _⟩
theorem jH {V:View}{cp:OA}{cn cc:Nat}{ls:List L3}(h:cI 6 cd V cp cn ls)(hb:∀l∈ls,Bd l)(hk:∀l∈ls,cS l=true)(hl:ls.length<=1000) :
  ab prog 51 #[.slice cp cn cc] V fun r V'=>∃u p,r=.tuple #[u,.bool (ny ls)]/\RP V' u (Prod.fst p) (Prod.snd p):=by
 have hn:=h.len
 subst hn
 refine wY cp ls.length cc V _ ⟨fun h0 V1 l1=>?_,fun h0=>⟨fun z _=>∃i:Nat,z=(i:Int)/\i<=ls.length/\∀(k:Nat)(g:k<ls.length),k<i->(dR ls[k] ls bj).isSome=false,fun z=>(ls.length-z).toNat,⟨0,by and_intros<;>rfl,0,rfl,Nat.zero_le _,fun k _ g=>absurd g (Nat.not_lt_zero k)⟩,?_⟩⟩
 ·have e:ls=[]:=List.length_eq_zero_iff.1 (by have:=of_decide_eq_true h0;omega)
  refine ⟨_,(0,0),?_,G_ V1⟩
  rw [show ny ls=true from decide_eq_true (.inl e)]
 have h0:ls.length≠0:=fun e=>by rw [e] at h0;cases h0
 rintro z V2 l2 ⟨i,rfl,hi,hf⟩
 refine ⟨by trivial,fun hlt=>?_,fun hlt lT dw=>?_⟩
 rotate_left
 ·have e:i=ls.length:=by have:=of_decide_eq_false hlt;omega
  subst e
  refine ⟨_,(0,0),?_,G_ lT⟩
  rw [show ny ls=false from decide_eq_false ?_]
  rintro (g|⟨l,g1,g2⟩)
  ·rw [g] at h0;exact h0 rfl
  ·obtain ⟨k,g3,rfl⟩:=List.mem_iff_getElem.1 g1
   rw [hf k g3 g3] at g2;cases g2
 have hlt:i<ls.length:=by have:=of_decide_eq_true hlt;omega
 have w1:i64.wrap ((i:Int)+1)=((i+1:Nat):Int):=by rw [ay (by omega)];rfl
 rw [w1,Int.toNat_natCast]
 have hL:∀{W:View},V.Le W->cI 6 cd W cp ls.length ls:=fun g=>h.le g fun _ _ k=>cd.le k g
 obtain ⟨is,b1,p1,n1,c1,b2,p2,n2,c2,b3,p3,n3,c3,a,had,a0,a1,a2,a3,a4,a5,hl1⟩:=pG (hL l2) hlt
 have bd:=hb _ (List.getElem_mem hlt)
 have ok:=hk _ (List.getElem_mem hlt)
 have hm:=List.getElem_mem hlt
 have sl:=bd.kF
 have nz:=Bj ok
 have hd:=iY bd
 have hff:(dR ls[i] ls bj).isSome=false->∀(k:Nat)(g:k<ls.length),k<i+1->(dR ls[k] ls bj).isSome=false:=fun e k g hk'=>by
  by_cases e':k=i
  ·subst e';exact e
  ·exact hf k g (by omega)
 refine ⟨is,⟨by omega,by omega⟩,b1,p1,n1,c1,b2,p2,n2,c2,b3,p3,n3,c3,a,had,a0,a1,a2,a3,a4,a5,fun V3 l3=>(AQ (hL (l2.trans l3)) hb hk hl hlt).mono ?_⟩
 generalize ls[i]=L at *
 rintro r V4 l4 ⟨u,s,rfl,gs,ss,-⟩
 have gs0:=gs
 obtain ⟨_,_,_,_,_,_,_,_,_,_,_,_,_,_,rfl⟩:=DN gs
 have mX:=l3.trans l4
 refine ⟨_,_,_,_,_,_,_,_,_,_,_,_,_,_,_,_,_,rfl,fun hz V5 l5=>(fo (hl1.le (mX.trans l5)) sl.1 sl.2.1 sl.2.2 (by omega)).mono ?_,fun hz=>⟨((i+1:Nat):Int),by dsimp only;omega,by and_intros<;>rfl,i+1,rfl,hlt,hff hz⟩⟩
 rintro r V6 l6 gd
 have gd0:=gd
 obtain ⟨_,_,_,_,_,_,_,_,_,_,_,_,rfl,xi,hdy⟩:=gd
 have lQ:=mX.trans (l5.trans l6)
 refine ⟨_,_,_,_,_,_,_,_,_,_,_,_,_,_,rfl,fun V7 l7=>(uK (gs0.le (l5.trans (l6.trans l7))) ss (by omega)).mono ?_⟩
 rintro r V8 l8 gq
 have Oy:=gq
 obtain ⟨_,_,_,_,_,_,rfl⟩:=gq.shape
 have sq:=Hh ss
 have vx:=lQ.trans (l7.trans l8)
 refine ⟨_,_,_,_,_,_,_,rfl,fun V9 l9=>(VZ (hl1.le (vx.trans l9)) (Oy.le l9) nz (sl.up (K:=200010) (by omega)) sq (by omega)).mono ?_⟩
 rintro r jk l10 ga
 have Qy:=ga
 obtain ⟨_,_,_,_,_,_,_,_,_,_,_,_,rfl,-⟩:=ga
 have Vb:=vx.trans (l9.trans l10)
 refine ⟨_,_,_,_,_,_,_,_,_,_,_,_,_,_,rfl,fun jh bK=>(nY (hdy.le ((l7.trans l8).trans ((l9.trans l10).trans bK))) hd.2 (by omega)).mono ?_⟩
 rintro r lS cg go
 have go0:=go
 obtain ⟨_,_,_,_,_,_,rfl⟩:=go.shape
 have Vc:=Vb.trans (bK.trans cg)
 have sx:=(FT (sl.up (K:=200010) (by omega)) sq).mono (show _<=60000000 by omega)
 have sy:=(FU (sl.up (K:=200010) (by omega)) sq).mono (show _<=60000000 by omega)
 refine ⟨_,_,_,_,_,_,_,rfl,fun oR cK=>(xE (p:=(gX L s.cL,h_ L s.cL)) (v:=(-(-((L.1:Int):Rat)),((L.2.1:Int):Rat))) (hL (l2.trans (Vc.trans cK))) hb hl (Qy.le (bK.trans (cg.trans cK))) ⟨_,_,_,_,_,_,_,_,_,_,_,_,rfl,go0.le cK,xi.le ((l7.trans l8).trans ((l9.trans l10).trans ((bK.trans cg).trans cK)))⟩ sx sy (Sz.mono hd.2.neg (by omega)) (Sz.mono hd.1 (by omega))).mono ?_⟩
 rintro r mP dN ⟨gp,-,-⟩
 have PM:=gp
 obtain ⟨_,_,_,_,_,_,_,_,_,_,_,_,rfl,-⟩:=gp
 refine ⟨_,_,_,_,_,_,_,_,_,_,_,_,_,_,rfl,fun lE dF=>⟨_,(_,_),?_,PM.le dF⟩⟩
 rw [show ny ls=true from decide_eq_true (.inr ⟨L,hm,hz⟩)]
def PX (ls:List L3)(m:L3):Int:=if ny (ls++[m])=true/\ny (ls++[fR m])=true then 0 else if ny (ls++[m])=true then 1 else -1
theorem rL {V:View}{b c:Nat}{vs:List Value}{ls:List L3}(hw:V.w.heap[b]?=some (.cells vs.toArray 27 (0,0)))(hr:Row 6 cd V vs ls)(hc:ls.length<=c)(h0:ls≠[])(hb:∀l∈ls,Bd l)(hk:∀l∈ls,cS l=true)(hl:ls.length<=1000) :
  ab prog 51 #[.slice (some ⟨b,0,none⟩) ls.length c] (V.aV [b]) fun r V'=>∃b1 p n1 c1 p' n2 c2 b2 q n3 c3 q' n4 c4,r=.tuple #[.agg #[.bool b1,.slice p n1 c1,.slice p' n2 c2,.bool b2,.slice q n3 c3,.slice q' n4 c4],.bool (ny ls)]/\V'.w.heap[b]?=some (.cells vs.toArray 27 (0,0)):=by
 have hsz:b<V.w.heap.size:=(Array.getElem?_eq_some_iff.1 hw).1
 have hpos:=List.length_pos_iff.2 h0
 have l0:V.Le ((V.aV [b]).bare b):=fun a v h=>⟨fun hh=>h.1 hh.1,h.2⟩
 have hL:cI 6 cd ((V.aV [b]).bare b) (mA b c) ls.length ls:=cI.fQ (V:=(V.aV [b]).bare b) (fun _=>⟨fun h=>h.2 rfl,hw⟩) (hr.le fun _ _ g=>cd.le g l0) (by decide) hc
 have e:mA b c=some ⟨b,0,none⟩:=by unfold mA;rw [if_neg (by omega)]
 rw [e] at hL
 refine (ab.bare (V:=V.aV [b]) hsz (jH hL hb hk hl)).mono ?_
 rintro r V' _ ⟨h1,u,p,rfl,h2⟩
 obtain ⟨_,_,_,_,_,_,_,_,_,_,_,_,rfl,-⟩:=h2
 exact ⟨_,_,_,_,_,_,_,_,_,_,_,_,_,_,rfl,h1.trans hw⟩
end Go.Proofs.Tryz
