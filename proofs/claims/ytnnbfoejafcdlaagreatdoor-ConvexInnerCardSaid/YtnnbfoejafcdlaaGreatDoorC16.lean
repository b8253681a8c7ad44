import Derived.Test.YtnnbfoejafcdlaaGreatDoorC15
import Derived.Test.YtnnbfoejafcdlaaGreatDoorC13
import Derived.Test.YtnnbfoejafcdlaaGreatDoorC8
import Derived.Test.YtnnbfoejafcdlaaGreatDoorC12
import Derived.Test.YtnnbfoejafcdlaaGreatDoorC14
import Derived.Test.YtnnbfoejafcdlaaGreatDoorC7
import Derived.Test.YtnnbfoejafcdlaaGreatDoorC5
import Derived.Test.YtnnbfoejafcdlaaGreatDoorC9
set_option linter.unusedVariables false
open Go.IntKind (i64 u64 u32)
namespace Go.Proofs.Tryz
open Go.bw Go.eN
theorem K7 {V:View}{vs:List Value}{ls:List L3}(h:Row 6 eI V vs ls){i:Nat}(hi:i<ls.length):∃b1 p1 n1 c1 b2 p2 n2 c2 b3 p3 n3 c3,i*6+6<=vs.length/\(vs.drop (i*6)).take 6=[Value.bool b1,.slice p1 n1 c1,.bool b2,.slice p2 n2 c2,.bool b3,.slice p3 n3 c3] /\
  eI V (.agg #[.bool b1,.slice p1 n1 c1,.bool b2,.slice p2 n2 c2,.bool b3,.slice p3 n3 c3]) ls[i]:=by
 obtain ⟨xs,h1,h2,h3⟩:=h.at_ i hi
 have hl:=h.je (by decide)
 have h20:=h2
 obtain ⟨_,_,_,_,_,_,_,_,_,_,_,_,e⟩:=dm h2
 have e:=congrArg Array.toList (Value.agg.inj e)
 dsimp only at e
 subst e
 refine ⟨_,_,_,_,_,_,_,_,_,_,_,_,by omega,?_,h20⟩
 apply List.ext_getElem?
 intro j
 rw [List.getElem?_take]
 split
 ·rename_i hj
  rw [List.getElem?_drop]
  exact h3 j _ (List.getElem?_eq_getElem (by show j<6;omega))▸(List.getElem?_eq_getElem (by show j<6;omega)).symm
 ·rename_i hj
  rw [List.getElem?_eq_none (by show 6<=j;omega)]
theorem xT {V:View}{p:OA}{n c:Nat}{ls:List L3}(h:cS 6 eI V p n ls)(hn:ls.length<=1000000)(hs:∀l∈ls,Bd l) :
  ab prog 71 #[.slice p n c] V fun r V'=>∃q m e,r=.slice q m e/\cS 6 eI V' q m ls:=by
 obtain rfl:=h.len
 refine vN p _ c V _ ⟨fun z V'=>∃j:Nat,z.2.2.2=(j:Int)/\j<=ls.length/\GR 6 eI V' z.1 z.2.1 z.2.2.1 (ls.take j),fun z=>ls.length-z.2.2.2.toNat,⟨(0,0,[],0),by and_intros<;>rfl,0,rfl,Nat.zero_le _,GR.nil⟩,?_⟩
 rintro ⟨z1,z2,vs,z4⟩ V1 l1 ⟨j,e4,Cs,hg⟩
 dsimp only at e4 hg
 subst e4
 have zl:=hg.len
 rw [List.length_take] at zl
 refine ⟨rfl,fun hlt=>?_,fun hlt V4 l4 bk hb=>?_⟩
 ·have hlt:(j:Int)<ls.length:=of_decide_eq_true hlt
  have hi:j<ls.length:=by omega
  obtain ⟨ad,ha,xs,-,hf,hat⟩:=(h.le l1 fun _ _ g=>eI.le g l1).at_ j hi
  have hf0:=hf
  obtain ⟨_,_,_,_,_,_,_,_,_,_,_,_,ex⟩:=dm hf
  have ex:=congrArg Array.toList (Value.agg.inj ex)
  dsimp only at ex
  subst ex
  have w:i64.wrap ((j:Int)+1)=((j+1:Nat):Int):=by rw [ay (by omega)];rfl
  dsimp only
  rw [Int.toNat_natCast,w]
  obtain ⟨d1,d2,d3⟩:=(hs _ (List.getElem_mem hi)).ah
  refine ⟨kQ ha,⟨by omega,by omega⟩,_,_,_,_,_,_,_,_,_,_,_,_,ad,ha,hat 0 _ rfl,hat 1 _ rfl,hat 2 _ rfl,hat 3 _ rfl,hat 4 _ rfl,hat 5 _ rfl,fun V2 l2=>(zS (hf0.le l2) (by omega) (by omega) (by omega)).mono ?_⟩
  rintro r V3 l3 g
  have g0:eI V3 r ls[j]:=g
  obtain ⟨_,_,_,_,_,_,_,_,_,_,_,_,rfl⟩:=dm g0
  refine ⟨_,_,_,_,_,_,_,_,_,_,_,_,rfl,by omega,hg.le,hg.cap,rfl,IY,fun sp c' h1 h2=>⟨(z1+1,c',_,((j+1:Nat):Int)),by dsimp only;omega,by and_intros<;>rfl,j+1,rfl,hi,?_⟩⟩
  dsimp only
  rw [List.take_add_one,List.getElem?_eq_getElem hi]
  exact (hg.mono (V':=V3) fun _ _ g=>eI.le g (l2.trans l3)).snoc rfl g0 (by decide) h1 h2
 ·have hlt:¬(j:Int)<ls.length:=of_decide_eq_false hlt
  obtain rfl:j=ls.length:=by omega
  rw [List.take_length] at hg
  obtain rfl:=hg.len
  exact ⟨_,_,_,rfl,cS.fT hb (hg.row.le fun _ _ g=>eI.le g l4) (by decide) hg.le⟩
theorem rZ {V:View}{p:OA}{n c:Nat}{q:OA}{m d:Nat}{A:List L3}(hA:cS 6 eI V p n A)(hB:cS 6 eI V q m A)(hn:A.length<=1000000)(hs:∀l∈A,Bd l) :
  ab prog 111 #[.slice p n c,.slice q m d] V fun r V'=>r=.bool true:=by
 obtain rfl:=hA.len
 obtain rfl:=hB.len
 refine qT p _ c q _ d V _ ⟨fun h=>by simp at h,fun _=>⟨fun z V'=>∃j:Nat,z=(j:Int)/\j<=A.length,fun z=>A.length-z.toNat,⟨0,by and_intros<;>rfl,0,rfl,Nat.zero_le _⟩,?_⟩⟩
 rintro z V2 l2 ⟨j,rfl,Cs⟩
 refine ⟨rfl,fun hlt=>?_,fun hlt V6 l6=>rfl⟩
 have hlt:(j:Int)<A.length:=of_decide_eq_true hlt
 have hi:j<A.length:=by omega
 obtain ⟨ad,ha,xs,-,hf,hat⟩:=(hA.le l2 fun _ _ g=>eI.le g l2).at_ j hi
 obtain ⟨OX,ha',ys,-,hf',hat'⟩:=(hB.le l2 fun _ _ g=>eI.le g l2).at_ j hi
 have hf0:=hf
 have PH:=hf'
 obtain ⟨_,_,_,_,_,_,_,_,_,_,_,_,ex⟩:=dm hf
 obtain ⟨_,_,_,_,_,_,_,_,_,_,_,_,ey⟩:=dm hf'
 have ex:=congrArg Array.toList (Value.agg.inj ex)
 have ey:=congrArg Array.toList (Value.agg.inj ey)
 dsimp only at ex ey
 subst ex ey
 have w:i64.wrap ((j:Int)+1)=((j+1:Nat):Int):=by rw [ay (by omega)];rfl
 rw [Int.toNat_natCast,w]
 obtain ⟨d1,d2,d3⟩:=(hs _ (List.getElem_mem hi)).ah
 refine ⟨kQ ha,⟨by omega,by omega⟩,_,_,_,_,_,_,_,_,_,_,_,_,ad,ha,hat 0 _ rfl,hat 1 _ rfl,hat 2 _ rfl,hat 3 _ rfl,hat 4 _ rfl,hat 5 _ rfl,kQ ha',⟨by omega,by omega⟩,_,_,_,_,_,_,_,_,_,_,_,_,OX,ha',hat' 0 _ rfl,hat' 1 _ rfl,hat' 2 _ rfl,hat' 3 _ rfl,hat' 4 _ rfl,hat' 5 _ rfl,fun V3 l3=>(uP (hf0.le l3) (PH.le l3) (by omega) (by omega) (by omega)).mono ?_⟩
 rintro r V4 l4 rfl
 rw [decide_eq_true ⟨rfl,rfl,rfl⟩]
 exact ⟨_,rfl,(fun h=>nomatch h),fun _=>⟨((j+1:Nat):Int),by dsimp only;omega,by and_intros<;>rfl,j+1,rfl,hi⟩⟩
def q_ (V:View)(v:Value)(c:Rat×Rat):Prop:=RP V v c.1 c.2
theorem q_.le {V V':View}{v:Value}{c:Rat×Rat}(h:q_ V v c)(l:V.Le V'):q_ V' v c:=RP.le h l
theorem q_.shape {V:View}{v:Value}{c:Rat×Rat}(h:q_ V v c):∃(b:Bool)(p:OA)(n c:Nat)(p':OA)(n' c':Nat)(d:Bool)(q:OA)(m e:Nat)(q':OA)(m' e':Nat),v=.agg #[.bool b,.slice p n c,.slice p' n' c',.bool d,.slice q m e,.slice q' m' e']:=by
 obtain ⟨p,n,c,p',n',c',q,m,e,q',m',e',h,-⟩:=h
 exact ⟨_,p,n,c,p',n',c',_,q,m,e,q',m',e',h⟩
theorem eH.shape {V:View}{v:Value}{c:Rat×Rat}(h:eH V v c):∃(b:Bool)(p:OA)(n c:Nat)(p':OA)(n' c':Nat)(d:Bool)(q:OA)(m e:Nat)(q':OA)(m' e':Nat),v=.agg #[.bool b,.slice p n c,.slice p' n' c',.bool d,.slice q m e,.slice q' m' e']:=by
 obtain ⟨_,_,_,_,_,_,_,_,_,_,_,_,_,_,h,-⟩:=h
 exact ⟨_,_,_,_,_,_,_,_,_,_,_,_,_,_,h⟩
theorem ym {R:View->Value->Rat×Rat->Prop}(sh:∀{V v c},R V v c->∃(b:Bool)(p:OA)(n c:Nat)(p':OA)(n' c':Nat)(d:Bool)(q:OA)(m e:Nat)(q':OA)(m' e':Nat),v=.agg #[.bool b,.slice p n c,.slice p' n' c',.bool d,.slice q m e,.slice q' m' e'])
  {V:View}{p:OA}{n:Nat}{al:List (Rat×Rat)}(h:cS 6 R V p n al){i:Nat}(hi:i<al.length) :
  p.isSome=true/\∃(b1:Bool)(p1:OA)(n1 c1:Nat)(p2:OA)(n2 c2:Nat)(b2:Bool)(p3:OA)(n3 c3:Nat)(p4:OA)(n4 c4:Nat)(a:Addr),ag p (i*6)=some a/\V.at (a.add 0) (.bool b1)/\V.at (a.add 1) (.slice p1 n1 c1)/\V.at (a.add 2) (.slice p2 n2 c2)/\V.at (a.add 3) (.bool b2)/\V.at (a.add 4) (.slice p3 n3 c3)/\V.at (a.add 5) (.slice p4 n4 c4) /\
   R V (.agg #[.bool b1,.slice p1 n1 c1,.slice p2 n2 c2,.bool b2,.slice p3 n3 c3,.slice p4 n4 c4]) al[i]:=by
 obtain ⟨ad,h0,xs,h1,h2,h3⟩:=h.at_ i hi
 have h20:=h2
 obtain ⟨_,_,_,_,_,_,_,_,_,_,_,_,_,_,e⟩:=sh h2
 have e:=congrArg Array.toList (Value.agg.inj e)
 dsimp only at e
 subst e
 refine ⟨?_,_,_,_,_,_,_,_,_,_,_,_,_,_,_,ad,h0,h3 0 _ rfl,h3 1 _ rfl,h3 2 _ rfl,h3 3 _ rfl,h3 4 _ rfl,h3 5 _ rfl,h20⟩
 cases p with
 | none=>cases h0
 | some a=>rfl
theorem Hy {R:View->Value->Rat×Rat->Prop}(sh:∀{V v c},R V v c->∃(b:Bool)(p:OA)(n c:Nat)(p':OA)(n' c':Nat)(d:Bool)(q:OA)(m e:Nat)(q':OA)(m' e':Nat),v=.agg #[.bool b,.slice p n c,.slice p' n' c',.bool d,.slice q m e,.slice q' m' e'])
  {V:View}{vs:List Value}{al:List (Rat×Rat)}(h:Row 6 R V vs al){i:Nat}(hi:i<al.length) :
  ∃(b1:Bool)(p1:OA)(n1 c1:Nat)(p2:OA)(n2 c2:Nat)(b2:Bool)(p3:OA)(n3 c3:Nat)(p4:OA)(n4 c4:Nat),i*6+6<=vs.length/\(vs.drop (i*6)).take 6=[.bool b1,.slice p1 n1 c1,.slice p2 n2 c2,.bool b2,.slice p3 n3 c3,.slice p4 n4 c4] /\
   R V (.agg #[.bool b1,.slice p1 n1 c1,.slice p2 n2 c2,.bool b2,.slice p3 n3 c3,.slice p4 n4 c4]) al[i]:=by
 obtain ⟨xs,h1,h2,h3⟩:=h.at_ i hi
 have hl:=h.je (by decide)
 have h20:=h2
 obtain ⟨_,_,_,_,_,_,_,_,_,_,_,_,_,_,e⟩:=sh h2
 have e:=congrArg Array.toList (Value.agg.inj e)
 dsimp only at e
 subst e
 refine ⟨_,_,_,_,_,_,_,_,_,_,_,_,_,_,by omega,?_,h20⟩
 apply List.ext_getElem?
 intro j
 rw [List.getElem?_take]
 split
 ·rename_i hj
  rw [List.getElem?_drop]
  exact h3 j _ (List.getElem?_eq_getElem (by show j<6;omega))▸(List.getElem?_eq_getElem (by show j<6;omega)).symm
 ·rename_i hj
  rw [List.getElem?_eq_none (by show 6<=j;omega)]
theorem xU {V:View}{p:OA}{n c:Nat}{A:List (Rat×Rat)}(h:cS 6 q_ V p n A)(hn:A.length<=1000000){k:Nat}(hs:∀x∈A,Sz k x.1/\Sz k x.2)(hk:k<=1099511627776) :
  ab prog 29 #[.slice p n c] V fun r V'=>∃q m e,r=.slice q m e/\cS 6 eH V' q m A:=by
 obtain rfl:=h.len
 refine vO p _ c V _ ⟨fun z V'=>∃j:Nat,z.2.2.2=(j:Int)/\j<=A.length/\GR 6 eH V' z.1 z.2.1 z.2.2.1 (A.take j),fun z=>A.length-z.2.2.2.toNat,⟨(0,0,[],0),by and_intros<;>rfl,0,rfl,Nat.zero_le _,GR.nil⟩,?_⟩
 rintro ⟨z1,z2,vs,z4⟩ V1 l1 ⟨j,e4,Cs,hg⟩
 dsimp only at e4 hg
 subst e4
 have zl:=hg.len
 rw [List.length_take] at zl
 refine ⟨rfl,fun hlt=>?_,fun hlt V4 l4 bk hb=>?_⟩
 ·have hlt:(j:Int)<A.length:=of_decide_eq_true hlt
  have hi:j<A.length:=by omega
  have w:i64.wrap ((j:Int)+1)=((j+1:Nat):Int):=by rw [ay (by omega)];rfl
  dsimp only
  rw [Int.toNat_natCast,w]
  obtain ⟨ps,b1,p1,n1,c1,p2,n2,c2,b2,p3,n3,c3,p4,n4,c4,a,ha,a0,a1,a2,a3,a4,a5,g⟩:=ym q_.shape (h.le l1 fun _ _ g=>q_.le g l1) hi
  obtain ⟨s1,s2⟩:=hs _ (List.getElem_mem hi)
  refine ⟨ps,⟨by omega,by omega⟩,_,_,_,_,_,_,_,_,_,_,_,_,_,_,a,ha,a0,a1,a2,a3,a4,a5,fun V2 l2=>(pT (g.le l2) s1 s2 hk).mono ?_⟩
  rintro r V3 l3 gr
  have g0:eH V3 r A[j]:=gr
  obtain ⟨_,_,_,_,_,_,_,_,_,_,_,_,_,_,rfl⟩:=g0.shape
  refine ⟨_,_,_,_,_,_,_,_,_,_,_,_,_,_,rfl,by omega,hg.le,hg.cap,rfl,JR,fun sp c' h1 h2=>⟨(z1+1,c',_,((j+1:Nat):Int)),by dsimp only;omega,by and_intros<;>rfl,j+1,rfl,hi,?_⟩⟩
  dsimp only
  rw [List.take_add_one,List.getElem?_eq_getElem hi]
  exact (hg.mono (V':=V3) fun _ _ g=>eH.le g (l2.trans l3)).snoc rfl g0 (by decide) h1 h2
 ·have hlt:¬(j:Int)<A.length:=of_decide_eq_false hlt
  obtain rfl:j=A.length:=by omega
  rw [List.take_length] at hg
  obtain rfl:=hg.len
  exact ⟨_,_,_,rfl,cS.fT hb (hg.row.le fun _ _ g=>eH.le g l4) (by decide) hg.le⟩
theorem r_ {V:View}{p:OA}{n c:Nat}{q:OA}{m d:Nat}{A:List (Rat×Rat)}(hA:cS 6 eH V p n A)(hB:cS 6 eH V q m A)(hn:A.length<=1000000){k:Nat}(hs:∀x∈A,Sz k x.1/\Sz k x.2)(hk:k<=1099511627776) :
  ab prog 28 #[.slice p n c,.slice q m d] V fun r V'=>r=.bool true:=by
 obtain rfl:=hA.len
 obtain rfl:=hB.len
 refine qU p _ c q _ d V _ ⟨fun h=>by simp at h,fun _=>⟨fun z V'=>∃j:Nat,z=(j:Int)/\j<=A.length,fun z=>A.length-z.toNat,⟨0,by and_intros<;>rfl,0,rfl,Nat.zero_le _⟩,?_⟩⟩
 rintro z V2 l2 ⟨j,rfl,Cs⟩
 refine ⟨rfl,fun hlt=>?_,fun hlt V6 l6=>rfl⟩
 have hlt:(j:Int)<A.length:=of_decide_eq_true hlt
 have hi:j<A.length:=by omega
 have w:i64.wrap ((j:Int)+1)=((j+1:Nat):Int):=by rw [ay (by omega)];rfl
 rw [Int.toNat_natCast,w]
 obtain ⟨ps,b1,p1,n1,c1,p2,n2,c2,b2,p3,n3,c3,p4,n4,c4,a,ha,a0,a1,a2,a3,a4,a5,g⟩:=ym eH.shape (hA.le l2 fun _ _ g=>eH.le g l2) hi
 obtain ⟨ps',b1',Np,n1',c1',Qr,Qk,c2',b2',Qs,Ql,c3',Vb,n4',TQ,a',ha',a0',a1',RT,a3',a4',RU,g'⟩:=ym eH.shape (hB.le l2 fun _ _ g=>eH.le g l2) hi
 obtain ⟨s1,s2⟩:=hs _ (List.getElem_mem hi)
 refine ⟨ps,⟨by omega,by omega⟩,_,_,_,_,_,_,_,_,_,_,_,_,_,_,a,ha,a0,a1,a2,a3,a4,a5,ps',⟨by omega,by omega⟩,_,_,_,_,_,_,_,_,_,_,_,_,_,_,a',ha',a0',a1',RT,a3',a4',RU,fun V3 l3=>(uQ (eH.le g l3) (eH.le g' l3) s1 s2 hk).mono ?_⟩
 rintro r V4 l4 rfl
 rw [decide_eq_true ⟨rfl,rfl⟩]
 exact ⟨_,rfl,(fun h=>nomatch h),fun _=>⟨((j+1:Nat):Int),by dsimp only;omega,by and_intros<;>rfl,j+1,rfl,hi⟩⟩
theorem cS.q {V:View}{p:OA}{n:Nat}{ls:List L3}(h:cS 6 eI V p n ls):cS 6 oJ V p n ls:=⟨h.len,fun i hi=>by
 obtain ⟨ad,h0,xs,h1,h2,h3⟩:=h.at_ i hi
 exact ⟨ad,h0,xs,h1,.inl h2,h3⟩⟩
theorem mj {V:View}{p:OA}{n c:Nat}{ls:List L3}(h:cS 6 eI V p n ls)(hn:ls.length<=1000000)(hs:∀l∈ls,Bd l) :
  ab prog 19 #[.slice p n c] V fun r V'=>∃q m e,r=.agg #[.slice q m e]/\cS 6 eI V' q m ls:=by
 refine uz p n c V _ fun V1 l1=>(xT (h.le l1 fun _ _ g=>eI.le g l1) hn hs).mono ?_
 rintro r V2 l2 ⟨q,m,e,rfl,g⟩
 exact ⟨_,_,_,rfl,fun V3 l3=>⟨_,_,_,rfl,g.le l3 fun _ _ g=>eI.le g l3⟩⟩
theorem xV {V:View}{p:OA}{n c:Nat}{q:OA}{m d:Nat}{A:List L3}(hA:cS 6 eI V p n A)(hB:cS 6 eI V q m A)(hn:A.length<=1000000)(hs:∀l∈A,Bd l) :
  ab prog 46 #[.agg #[.slice p n c],.agg #[.slice q m d]] V fun r V'=>r=.bool true:=by
 refine vP p n c q m d V _ fun V1 l1=>(rZ (hA.le l1 fun _ _ g=>eI.le g l1) (hB.le l1 fun _ _ g=>eI.le g l1) hn hs).mono ?_
 rintro r V2 l2 rfl
 exact ⟨_,rfl,fun V3 l3=>rfl⟩
def BO:List L3:=[(0,1,0),(-1,0,1),(0,-1,1),(1,0,0)]
def oI:List (Rat×Rat):=[(((0:Int):Rat),((0:Int):Rat)),(((1:Int):Rat),((0:Int):Rat)),(((1:Int):Rat),((1:Int):Rat)),(((0:Int):Rat),((1:Int):Rat))]
def OC:List (Rat×Rat):=[(((1:Int):Rat),((0:Int):Rat)),(((1:Int):Rat),((1:Int):Rat)),(((0:Int):Rat),((1:Int):Rat)),(((0:Int):Rat),((0:Int):Rat))]
theorem K_:∀i:Fin 4,¬((oI.getD i (0,0)).1=(oI.getD ((i+1)%4) (0,0)).1/\(oI.getD i (0,0)).2=(oI.getD ((i+1)%4) (0,0)).2)/\CV (oI.getD i (0,0)).1 (oI.getD i (0,0)).2 (oI.getD ((i+1)%4) (0,0)).1 (oI.getD ((i+1)%4) (0,0)).2=BO.getD i (0,0,0):=by decide +kernel
theorem K9:(bE BO [] []).map (fun c=>(c.map Prod.fst,zE c))=some (BO,true):=by decide +kernel
theorem La:ko BO=OC:=by decide +kernel
theorem Jf:tw (ko BO)*((2:Int):Rat)⁻¹=((1:Int):Rat):=by decide +kernel
theorem HE:vf BO=true:=by decide
theorem CE {z:Int}(k:Nat)(hk:k≠0)(h:z.natAbs<=1):z.natAbs<2^k:=Nat.lt_of_le_of_lt h (Nat.one_lt_two_pow hk)
theorem IZ {l:L3}(k:Nat)(hk:k≠0)(h:l.1.natAbs<=1/\l.2.1.natAbs<=1/\l.2.2.natAbs<=1):l.1.natAbs<2^k/\l.2.1.natAbs<2^k/\l.2.2.natAbs<2^k:=⟨CE k hk h.1,CE k hk h.2.1,CE k hk h.2.2⟩
theorem HF:∀l∈BO,l.1.natAbs<=1/\l.2.1.natAbs<=1/\l.2.2.natAbs<=1:=by decide
theorem A5:∀l∈BO,Bd l:=fun l hl=>IZ 1000 (by decide) (HF l hl)
theorem CT:∀x∈oI,Sz 2 x.1/\Sz 2 x.2:=by
 have h0:Sz 2 ((0:Int):Rat):=⟨by show (0:Int).natAbs<_;decide,by show (1:Nat)<_;decide⟩
 intro x hx
 simp only [oI,List.mem_cons,List.not_mem_nil,or_false] at hx
 rcases hx with rfl|rfl|rfl|rfl<;>exact ⟨by first|exact h0|exact fV,by first|exact h0|exact fV⟩
theorem HG:∀x∈OC,Sz 2 x.1/\Sz 2 x.2:=fun x hx=>CT x (by
 simp only [OC,List.mem_cons,List.not_mem_nil,or_false] at hx
 simp only [oI,List.mem_cons,List.not_mem_nil,or_false]
 rcases hx with rfl|rfl|rfl|rfl
 ·exact .inr (.inl rfl)
 ·exact .inr (.inr (.inl rfl))
 ·exact .inr (.inr (.inr rfl))
 ·exact .inl rfl)
theorem A1 {R:View->Value->Rat×Rat->Prop}{V:View}{a b c d:List Value}{p q r s:Rat×Rat}(la:a.length=6)(lb:b.length=6)(lc:c.length=6)(ld:d.length=6)(ha:R V (.agg a.toArray) p)(hb:R V (.agg b.toArray) q)(hc:R V (.agg c.toArray) r)(hd:R V (.agg d.toArray) s) :
  Row 6 R V (a++(b++(c++d))) [p,q,r,s]:=by
 have h1:=mN (sp:=[]) (row_one lc hc) (row_one ld hd) (by decide)
 have h2:=mN (sp:=[]) (row_one lb hb) h1 (by decide)
 have h3:=mN (sp:=[]) (row_one la ha) h2 (by decide)
 have tk:∀{x:List Value},x.length=6->x.take (1*6)=x:=fun h=>List.take_of_length_le (by omega)
 simp only [List.length_singleton,List.length_cons,List.length_nil,Nat.zero_add,tk la,tk lb,tk lc,List.append_nil,List.cons_append,List.nil_append] at h3
 exact h3
theorem rY {V:View}:ab prog 38 #[] V fun r V'=>∃(bk n c:Nat)(vs:List Value),r=.slice (mA bk c) n c/\(vs≠[]->V'.w.heap[bk]?=some (.cells vs.toArray 27 (0,0)))/\(vs≠[]->V.w.heap.size<=bk)/\GR 6 eI (V'.iT (vs≠[]) bk) n c vs BO:=by
 have xy:∀{W:View} (x y:Int),x.natAbs<=1->y.natAbs<=1->ab prog 12 #[.int .i64 x,.int .i64 y] W fun r V'=>RP V' r (x:Rat) (y:Rat):=fun x y h h'=>j8 x y (by omega) (by omega) (by omega) (by omega)
 refine qR V _ fun V1 l1=>(xy 0 0 (by decide) (by decide)).mono ?_
 rintro r V2 l2 g1
 have g10:q_ V2 r (((0:Int):Rat),((0:Int):Rat)):=g1
 obtain ⟨_,_,_,_,_,_,_,_,_,_,_,_,_,_,rfl⟩:=g10.shape
 refine ⟨_,_,_,_,_,_,_,_,_,_,_,_,_,_,rfl,fun V3 l3=>(xy 1 0 (by decide) (by decide)).mono ?_⟩
 rintro r V4 l4 g2
 have g20:q_ V4 r (((1:Int):Rat),((0:Int):Rat)):=g2
 obtain ⟨_,_,_,_,_,_,_,_,_,_,_,_,_,_,rfl⟩:=g20.shape
 refine ⟨_,_,_,_,_,_,_,_,_,_,_,_,_,_,rfl,fun V5 l5=>(xy 1 1 (by decide) (by decide)).mono ?_⟩
 rintro r V6 l6 g3
 have lT:q_ V6 r (((1:Int):Rat),((1:Int):Rat)):=g3
 obtain ⟨_,_,_,_,_,_,_,_,_,_,_,_,_,_,rfl⟩:=lT.shape
 refine ⟨_,_,_,_,_,_,_,_,_,_,_,_,_,_,rfl,fun V7 l7=>(xy 0 1 (by decide) (by decide)).mono ?_⟩
 rintro r V8 l8 g4
 have Gc:q_ V8 r (((0:Int):Rat),((1:Int):Rat)):=g4
 obtain ⟨_,_,_,_,_,_,_,_,_,_,_,_,_,_,rfl⟩:=Gc.shape
 have JM:=l7.trans l8
 have KN:=l5.trans (l6.trans JM)
 have hrow:Row 6 q_ V8 _ oI:=A1 (a:=[_,_,_,_,_,_]) (b:=[_,_,_,_,_,_]) (c:=[_,_,_,_,_,_]) (d:=[_,_,_,_,_,_]) rfl rfl rfl rfl (g10.le (l3.trans (l4.trans KN))) (g20.le KN) (lT.le JM) Gc
 refine ⟨_,_,_,_,_,_,_,_,_,_,_,_,_,_,rfl,fun z V'=>∃j:Nat,z.2.2.2.1=(j:Int)/\j<=4/\Row 6 q_ V' z.2.2.2.2 oI/\GR 6 eI V' z.1 z.2.1 z.2.2.1 (BO.take j),fun z=>4-z.2.2.2.1.toNat,⟨(0,0,[],0,_),by and_intros<;>rfl,0,rfl,by omega,hrow,GR.nil⟩,?_⟩
 rintro ⟨z1,z2,vs,z4,ps⟩ V9 l9 ⟨j,e4,Cs,hps,hg⟩
 dsimp only at e4 hg hps
 subst e4
 have zl:=hg.len
 rw [List.length_take] at zl
 have hq4:BO.length=4:=rfl
 have Wy:oI.length=4:=rfl
 refine ⟨rfl,fun hlt=>?_,fun hlt nk bk cK hb hfr=>?_⟩
 ·have hlt:(j:Int)<4:=of_decide_eq_true hlt
  have hi:j<4:=by omega
  have w:i64.wrap ((j:Int)+1)=((j+1:Nat):Int):=by rw [ay (by omega)];rfl
  have hm:(((j+1:Nat):Int)).tmod (4:Int)=(((j+1)%4:Nat):Int):=by
   have:=Int.ofNat_tmod (j+1) 4
   exact this.symm
  dsimp only
  rw [w,hm]
  simp only [Int.toNat_natCast,Nat.zero_add]
  obtain ⟨b1,p1,n1,c1,p2,n2,c2,b2,p3,n3,c3,p4,n4,c4,lp,ep,gp⟩:=Hy q_.shape hps (i:=j) (by omega)
  obtain ⟨b1',Np,n1',c1',Qr,Qk,c2',b2',Qs,Ql,c3',Vb,n4',TQ,U1,Ol,Ue⟩:=Hy q_.shape hps (i:=(j+1)%4) (by omega)
  obtain ⟨hne,hth⟩:=K_ ⟨j,hi⟩
  have ej:oI.getD j (0,0)=oI[j]:=fS (by omega)
  have TV:oI.getD ((j+1)%4) (0,0)=oI[(j+1)%4]:=fS (by omega)
  have el:BO.getD j (0,0,0)=BO[j]:=fS (by omega)
  have hne:¬((oI.getD j (0,0)).1=(oI.getD ((j+1)%4) (0,0)).1/\(oI.getD j (0,0)).2=(oI.getD ((j+1)%4) (0,0)).2):=hne
  have hth:CV (oI.getD j (0,0)).1 (oI.getD j (0,0)).2 (oI.getD ((j+1)%4) (0,0)).1 (oI.getD ((j+1)%4) (0,0)).2=BO.getD j (0,0,0):=hth
  rw [ej,TV] at hne hth
  rw [el] at hth
  obtain ⟨s1,s2⟩:=CT _ (List.getElem_mem (show j<oI.length by omega))
  obtain ⟨s3,s4⟩:=CT _ (List.getElem_mem (show (j+1)%4<oI.length by omega))
  refine ⟨⟨by omega,by omega⟩,_,_,_,_,_,_,_,_,_,_,_,_,_,_,⟨lp,ep⟩,by decide,⟨by omega,by omega⟩,_,_,_,_,_,_,_,_,_,_,_,_,_,_,⟨U1,Ol⟩,fun jr l10=>(E9 (q_.le gp l10) (q_.le Ue l10) s1 s2 s3 s4 (by omega) (by omega)).mono ?_⟩
  rintro r jP bN ⟨-,hr⟩
  obtain ⟨l,rfl,gl⟩:=hr hne
  have R_:eI jP l BO[j]:=by rw [←hth];exact gl
  obtain ⟨_,_,_,_,_,_,_,_,_,_,_,_,rfl⟩:=dm R_
  refine ⟨_,_,_,_,_,_,_,_,_,_,_,_,_,rfl,by omega,hg.le,hg.cap,rfl,IY,fun sp c' h1 h2=>⟨(z1+1,c',_,((j+1:Nat):Int),ps),by dsimp only;omega,by and_intros<;>first|rfl|trivial,j+1,rfl,by omega,hps.le fun _ _ g=>q_.le g (l10.trans bN),?_⟩⟩
  dsimp only
  rw [List.take_add_one,List.getElem?_eq_getElem (by omega)]
  exact (hg.mono (V':=jP) fun _ _ g=>eI.le g (l10.trans bN)).snoc rfl R_ (by decide) h1 h2
 ·have hlt:¬(j:Int)<4:=of_decide_eq_false hlt
  obtain rfl:j=4:=by omega
  exact ⟨bk,z1,z2,vs,rfl,hb,fun h=>(hfr h).elim id False.elim,hg.mono fun _ _ g=>eI.le g cK⟩
set_option maxHeartbeats 1000000 in
theorem mg {V:View}{yi ye yu:Value}(E:Er V yi ye yu):ab prog 14 #[] V fun r V'=>r=.bool true:=by
 have xy:∀{W:View} (x y:Int),x.natAbs<=1->y.natAbs<=1->ab prog 12 #[.int .i64 x,.int .i64 y] W fun r V'=>RP V' r (x:Rat) (y:Rat):=fun x y h h'=>j8 x y (by omega) (by omega) (by omega) (by omega)
 obtain ⟨cs,hcs,e1⟩:=Option.map_eq_some_iff.1 K9
 obtain ⟨e1,e2⟩:=Prod.mk.inj e1
 refine uk V _ fun V1 l1=>rY.mono ?_
 rintro r V2 l2 ⟨bm,n,c,vm,rfl,f1,f2,hg⟩
 refine ⟨bm,vm,f1,fun h=>.inl (f2 h),none,n,c,rfl,fun V3 l3 bk hbk=>?_⟩
 have c_:V1.Le V3:=(s_ l2 fun h=>.inl (f2 h)).trans l3
 have hL:cS 6 eI V3 (mA bk c) n BO:=by
  rw [hg.len]
  exact cS.fT hbk (hg.row.le fun _ _ g=>eI.le g fun b o h=>l3 b o h) (by decide) (by have:=hg.le;have:=hg.len;omega)
 refine (mj hL (by decide) A5).mono ?_
 rintro r V4 l4 ⟨q,m,e,rfl,hW⟩
 have L4:=l1.trans (c_.trans l4)
 refine ⟨_,_,_,rfl,fun J V5 l5=>(uK (cS.q (hW.le l5 fun _ _ g=>eI.le g l5)) A5 (E.le (L4.trans l5))).mono ?_⟩
 rintro r V6 l6 hA
 obtain ⟨-,hA⟩:=hA.some HE hcs
 obtain ⟨wa,rfl,gA,sA⟩:=hA e2
 rw [e1,Jf] at gA
 have T3:=gA
 obtain ⟨_,_,_,_,_,_,_,rfl⟩:=gA.shape
 have l46:=l5.trans l6
 refine ⟨_,_,_,_,_,_,_,_,rfl,fun V7 l7=>(rT (cS.q (hW.le (l46.trans l7) fun _ _ g=>eI.le g (l46.trans l7))) A5 (E.le (L4.trans (l46.trans l7)))).mono ?_⟩
 rintro r V8 l8 hC0
 obtain ⟨q1,m1,d1,rfl,hC,-⟩:=hC0.some HE hcs
 clear hC0
 rw [e1] at hC
 have KN:=l46.trans (l7.trans l8)
 refine ⟨_,_,_,_,rfl,fun V9 l9=>(iL (cS.q (hW.le (KN.trans l9) fun _ _ g=>eI.le g (KN.trans l9))) A5 (E.le (L4.trans (KN.trans l9)))).mono ?_⟩
 rintro r jr l10 JB
 obtain ⟨q2,m2,d2,rfl,hV,-⟩:=JB.some HE hcs
 clear JB
 rw [e1,La] at hV
 have DO:=l9.trans l10
 have MU:=KN.trans DO
 refine ⟨_,_,_,_,rfl,eC.1,fun _=>⟨eC.1,fun _=>⟨eC.1,fun _ jP bN=>?_,fun h=>by cases h⟩,fun h=>by cases h⟩,fun h=>by cases h⟩
 refine (xV (hW.le (MU.trans bN) fun _ _ g=>eI.le g (MU.trans bN)) (hC.le (DO.trans bN) fun _ _ g=>eI.le g (DO.trans bN)) (by decide) A5).mono ?_
 rintro r nk cK rfl
 have MV:=l7.trans (l8.trans (DO.trans (bN.trans cK)))
 refine ⟨_,rfl,fun _ qu c_=>(B1 (T3.le (MV.trans c_)) (k:=2) fV (by omega)).mono ?_,fun h=>by cases h⟩
 rintro r nq eR gq
 have Uf:=gq
 obtain ⟨_,_,_,_,_,_,rfl⟩:=gq.shape
 refine ⟨_,_,_,_,_,_,_,rfl,fun ma dR=>(ic 1 (by omega) (by omega)).mono ?_⟩
 rintro r mb dS g1
 have g10:=g1
 obtain ⟨_,_,_,_,_,_,rfl⟩:=g1.shape
 refine ⟨_,_,_,_,_,_,_,rfl,fun oF dk=>(xQ (Uf.le (dR.trans (dS.trans dk))) (g10.le dk) fV fV (by omega)).mono ?_⟩
 rintro r pK ee rfl
 have Gx:=c_.trans (eR.trans (dR.trans (dS.trans (dk.trans ee))))
 refine ⟨_,rfl,fun _ vY eF=>(xy 1 0 (by decide) (by decide)).mono ?_,fun h=>by
  rw [show fI ((1:Int):Rat) ((1:Int):Rat)=0 from iQ.1 rfl] at h;cases h⟩
 rintro r zy jd h1
 have h10:q_ zy r (((1:Int):Rat),((0:Int):Rat)):=h1
 obtain ⟨_,_,_,_,_,_,_,_,_,_,_,_,_,_,rfl⟩:=h10.shape
 refine ⟨_,_,_,_,_,_,_,_,_,_,_,_,_,_,rfl,fun xB gy=>(xy 1 1 (by decide) (by decide)).mono ?_⟩
 rintro r rF jo h2
 have h20:q_ rF r (((1:Int):Rat),((1:Int):Rat)):=h2
 obtain ⟨_,_,_,_,_,_,_,_,_,_,_,_,_,_,rfl⟩:=h20.shape
 refine ⟨_,_,_,_,_,_,_,_,_,_,_,_,_,_,rfl,fun zt gF=>(xy 0 1 (by decide) (by decide)).mono ?_⟩
 rintro r Ia BM h3
 have Si:q_ Ia r (((0:Int):Rat),((1:Int):Rat)):=h3
 obtain ⟨_,_,_,_,_,_,_,_,_,_,_,_,_,_,rfl⟩:=Si.shape
 refine ⟨_,_,_,_,_,_,_,_,_,_,_,_,_,_,rfl,fun H3 oH=>(xy 0 0 (by decide) (by decide)).mono ?_⟩
 rintro r Jt vd h4
 have Ot:q_ Jt r (((0:Int):Rat),((0:Int):Rat)):=h4
 obtain ⟨_,_,_,_,_,_,_,_,_,_,_,_,_,_,rfl⟩:=Ot.shape
 have GG:=oH.trans vd
 have mJ:=gF.trans (BM.trans GG)
 refine ⟨_,_,_,_,_,_,_,_,_,_,_,_,_,_,rfl,fun J5 kD bk hb=>?_⟩
 have hrow:Row 6 q_ J5 _ OC:=A1 (a:=[_,_,_,_,_,_]) (b:=[_,_,_,_,_,_]) (c:=[_,_,_,_,_,_]) (d:=[_,_,_,_,_,_]) rfl rfl rfl rfl (h10.le (gy.trans (jo.trans (mJ.trans kD)))) (h20.le (mJ.trans kD)) (Si.le (GG.trans kD)) (Ot.le kD)
 refine (xU (cS.G7 hb hrow) (by decide) HG (by omega)).mono ?_
 rintro r Ju DN ⟨q3,m3,d3,rfl,hP⟩
 refine ⟨_,_,_,rfl,fun _ LI zu=>(r_ (hV.le (bN.trans (cK.trans (Gx.trans (eF.trans (jd.trans (gy.trans (jo.trans (mJ.trans (kD.trans (DN.trans zu)))))))))) fun _ _ g=>eH.le g (bN.trans (cK.trans (Gx.trans (eF.trans (jd.trans (gy.trans (jo.trans (mJ.trans (kD.trans (DN.trans zu)))))))))) ) (hP.le zu fun _ _ g=>eH.le g zu) (by decide) HG (by omega)).mono ?_⟩
 rintro r J6 BN rfl
 exact ⟨_,rfl,fun OU H7=>rfl⟩
theorem O7 {V:View}{tb:Nat}{p:OA}{n c:Nat}{at_:Int}(hr:Fs V p n)(hn:n<=400)(hw:nt V tb p n c at_)(hx:V.X tb)(h0:0<=at_) :
  ab prog 72 #[.pointer (some ⟨tb,0,none⟩),.int .i64 7] V fun r V'=>∃(at':Int)(ls:List L3)(bk n' c':Nat)(vs:List Value),0<=at'/\nt V' tb p n c at'/\r=.slice (mA bk c') n' c' /\
   (vs≠[]->V'.w.heap[bk]?=some (.cells vs.toArray 27 (0,0)))/\(vs≠[]->V.w.heap.size<=bk)/\GR 6 eI (V'.iT (vs≠[]) bk) n' c' vs ls/\ls.length<=7/\∀l∈ls,dV l=true/\Bd l:=by
 have w8:i64.wrap ((7:Int)+1)=8:=ay (by omega)
 refine pI tb p n c at_ 7 V _ hw hx fun V1 l1 bk1 e1 h1=>?_
 rw [w8]
 refine (oP (V:=V1.bf [bk1]) 8 (hr.le fun b o h=>l1 b o h) hn e1 ⟨by simp,h1⟩ h0 (by omega) (by omega)).mono ?_
 rintro r V2 l2 ⟨x,FJ,rfl,x0,x1,t1,hw1⟩
 refine ⟨_,rfl,p,n,c,FJ,hw1,fun z V'=>∃(ls:List L3),z.2.2.2.2.1=p/\z.2.2.2.2.2.1=n/\z.2.2.2.2.2.2.1=c/\0<=z.2.2.2.2.2.2.2/\0<=z.2.2.2.1/\(ls.length:Int)+z.2.2.2.1<=7/\GR 6 eI V' z.1 z.2.1 z.2.2.1 ls/\(∀l∈ls,dV l=true/\Bd l),fun z=>z.2.2.2.1.toNat,
  ⟨(0,0,[],x,p,n,c,FJ),by and_intros<;>rfl,[],rfl,rfl,rfl,t1,x0,by simp;omega,GR.nil,fun l hl=>by cases hl⟩,?_⟩
 rintro ⟨z1,z2,vs,i,zp,zn,zc,za⟩ V3 l3 ⟨ls,e5,e6,e7,ha,hi0,Uv,hg,hls⟩
 dsimp only at e5 e6 e7 ha hi0 Uv hg
 subst e5 e6 e7
 have gF:V1.Le V3:=fun b o h=>l3 b o (l2 b o h)
 refine ⟨rfl,fun hlt V4 l4 TO e9 h9=>?_,fun hlt V6 bk Ul e6 f1 f2=>?_⟩
 ·have hlt:i>0:=of_decide_eq_true hlt
  have w:i64.wrap (i-1)=i-1:=ay (by omega)
  refine (TR (V:=V4.bf [TO]) (hr.le fun b o h=>l4 b o (gF b o (l1 b o h))) hn e9 ⟨by simp,h9⟩ ha).mono ?_
  rintro r V5 l5 ⟨l,at2,hl,ok,bd,t2,hw2⟩
  have hl0:eI V5 r l:=hl
  obtain ⟨_,_,_,_,_,_,_,_,_,_,_,_,rfl⟩:=dm hl0
  have zl:=hg.len
  rw [w]
  refine ⟨_,_,_,_,_,_,_,_,_,_,_,_,rfl,zp,zn,zc,at2,hw2,by omega,hg.le,hg.cap,rfl,IY,fun sp c' k1 k2=>⟨(z1+1,c',_,i-1,zp,zn,zc,at2),by dsimp only;omega,by and_intros<;>rfl,ls++[l],rfl,rfl,rfl,t2,by dsimp only;omega,?_,?_,?_⟩⟩
  ·dsimp only
   rw [List.length_append,List.length_singleton]
   omega
  ·exact (hg.mono (V':=V5.shut) fun _ _ g=>eI.le (V:=V3) (V':=V5.shut) g fun b o h=>l5 b o (l4 b o h)).snoc rfl (eI.le (V:=V5) (V':=V5.shut) hl0 fun b o h=>h) (by decide) k1 k2
  ·intro y hy
   rcases List.mem_append.1 hy with hy|hy
   ·exact hls y hy
   ·rw [List.mem_singleton.1 hy];exact ⟨ok,bd⟩
 ·have hlt:¬i>0:=of_decide_eq_false hlt
  exact ⟨za,ls,bk,z1,z2,vs,ha,e6,rfl,f1,fun h=>(f2 h).elim id False.elim,hg.mono fun _ _ g=>eI.le g Ul,by omega,hls⟩
theorem DH:Sz 10 (mkRat 1 7)/\Sz 10 (mkRat 1 5):=by unfold Sz;decide +kernel
set_option maxHeartbeats 1000000 in
theorem Kf {V:View}{tb:Nat}{p:OA}{n c:Nat}{at_:Int}(hr:Fs V p n)(hn:n<=400)(hw:nt V tb p n c at_)(hx:V.X tb)(h0:0<=at_) :
  ab prog 20 #[.pointer (some ⟨tb,0,none⟩)] V fun r V'=>∃(at':Int)(ls:List L3)(q:OA)(m e:Nat),0<=at'/\nt V' tb p n c at'/\r=.slice q m e/\cS 6 eI V' q m ls/\ls.length<=7/\∀l∈ls,dV l=true/\Bd l:=by
 refine vG tb p n c at_ V _ hw hx fun V1 l1 bk1 e1 h1=>(O7 (V:=V1.bf [bk1]) (hr.le fun b o h=>l1 b o h) hn e1 ⟨by simp,h1⟩ h0).mono ?_
 rintro r V2 l2 ⟨FJ,ls,bm,n1,c1,vm,t1,hw1,rfl,f1,f2,hg,hlen,hls⟩
 have f2':vm≠[]->V1.w.heap.size<=bm:=f2
 have zl:=hg.len
 have OL:=hg.le
 have VX:=hg.cap
 refine ⟨bm,vm,f1,fun h=>.inl (f2' h),none,n1,c1,rfl,p,n,c,FJ,hw1,fun V3 l3 TN e3 h3=>?_⟩
 have c_:V1.Le V3:=fun b o hb=>l3 b o (s_ (V:=V1.bf [bk1]) l2 (fun h=>.inl (f2' h)) b o hb)
 have hg3:GR 6 eI V3 n1 c1 vm ls:=hg.mono fun _ _ g=>eI.le g fun b o h=>l3 b o h
 have SE:=l1.trans c_
 refine (oP (V:=V3.bf [TN]) 3 (hr.le fun b o h=>SE b o h) hn e3 ⟨by simp,h3⟩ t1 (by omega) (by omega)).mono ?_
 rintro r V4 l4 ⟨x,at2,rfl,x0,x1,t2,hw2⟩
 refine ⟨_,rfl,p,n,c,at2,hw2,fun hz V5 l5 O1 e5 hb=>?_,fun hz V6 l6 O2 e6 h6=>?_⟩
 ·have MR:V3.Le V5:=fun b o h=>l5 b o (l4 b o h)
  refine ⟨at2,ls,mA O1 c1,n1,c1,t2,e5,rfl,?_,hlen,hls⟩
  rw [zl]
  exact cS.fT hb (hg3.row.le fun _ _ g=>eI.le g MR) (by decide) (by omega)
 have MS:V3.Le V6:=fun b o h=>l6 b o (l4 b o h)
 have JK:=SE.trans MS
 refine (RY (V:=V6.bf [O2]) (hr.le fun b o h=>JK b o h) hn e6 ⟨by simp,h6⟩ t2).mono ?_
 rintro r V7 l7 ⟨q1,at3,g7,s7,t3,hw3⟩
 have Ft:=g7
 obtain ⟨_,_,_,_,_,_,rfl⟩:=g7.shape
 refine ⟨_,_,_,_,_,_,_,rfl,p,n,c,at3,hw3,fun V8 l8=>(jZ 1 7 (by omega) (by omega) (by omega) (by omega)).mono ?_⟩
 rintro r V9 l9 g9
 have Ps:=g9
 obtain ⟨_,_,_,_,_,_,rfl⟩:=g9.shape
 have MW:V7.Le V9:=fun b o h=>l9 b o (l8 b o h)
 have Qc:V6.Le V9:=fun b o h=>MW b o (l7 b o h)
 refine ⟨_,_,_,_,_,_,_,rfl,fun jr l10=>(cW (Ft.le (MW.trans l10)) (Ps.le l10) s7 DH.1 (by omega)).mono ?_⟩
 rintro r jP bN g11
 have O_:=g11
 obtain ⟨_,_,_,_,_,_,rfl⟩:=g11.shape
 have tM:Sz 40 (q1+mkRat 1 7):=(s7.add DH.1).mono (by omega)
 have JN:=Qc.trans (l10.trans bN)
 refine ⟨_,_,_,_,_,_,_,rfl,fun nk cK O4 e12 h12=>(RY (V:=nk.bf [O4]) (hr.le fun b o h=>cK b o (JN b o (JK b o h))) hn e12 ⟨by simp,h12⟩ t3).mono ?_⟩
 rintro r qu Qb ⟨q2,at4,g13,s13,t4,hw4⟩
 have Pb:=g13
 obtain ⟨_,_,_,_,_,_,rfl⟩:=g13.shape
 have KL:jP.Le qu:=fun b o h=>Qb b o (cK b o h)
 refine ⟨_,_,_,_,_,_,_,rfl,p,n,c,at4,hw4,fun nq eR=>(jZ 1 5 (by omega) (by omega) (by omega) (by omega)).mono ?_⟩
 rintro r ma dR g15
 have Pc:=g15
 obtain ⟨_,_,_,_,_,_,rfl⟩:=g15.shape
 have Gy:qu.Le ma:=fun b o h=>dR b o (eR b o h)
 refine ⟨_,_,_,_,_,_,_,rfl,fun mb dS=>(cW (Pb.le (Gy.trans dS)) (Pc.le dS) s13 DH.2 (by omega)).mono ?_⟩
 rintro r oF dk g17
 have Pf:=g17
 obtain ⟨_,_,_,_,_,_,rfl⟩:=g17.shape
 have Vk:Sz 40 (q2+mkRat 1 5):=(s13.add DH.2).mono (by omega)
 have Gw:=KL.trans (Gy.trans (dS.trans dk))
 have MT:=MS.trans (JN.trans Gw)
 refine ⟨_,_,_,_,_,_,_,rfl,fun z V'=>∃(j:Nat)(ms:List L3),z.1=(j:Int)/\j<=n1/\ms.length=ls.length/\Row 6 eI V' z.2 ms/\z.2.length=vm.length/\∀l∈ms,dV l=true/\Bd l,fun z=>n1-z.1.toNat,⟨(0,vm),by and_intros<;>rfl,0,ls,rfl,Nat.zero_le _,rfl,hg3.row.le fun _ _ g=>eI.le g MT,rfl,hls⟩,?_⟩
 rintro ⟨z1,vs⟩ pK ee ⟨j,ms,Kl,Cs,hml,hrow,hvl,hms⟩
 dsimp only at Kl hrow hvl
 subst Kl
 refine ⟨rfl,fun hlt=>?_,fun hlt zt gF bk e23 hb=>?_⟩
 ·have hlt:(j:Int)<n1:=of_decide_eq_true hlt
  have hj:j<ms.length:=by omega
  have w:i64.wrap ((j:Int)+1)=((j+1:Nat):Int):=by rw [ay (by omega)];rfl
  dsimp only
  rw [Int.toNat_natCast,w]
  obtain ⟨b1,p1,n1',c1',b2,p2,n2,c2,b3,p3,n3,c3,e_,Mb,hl⟩:=K7 hrow hj
  obtain ⟨ok,bd⟩:=hms _ (List.getElem_mem hj)
  have hp:RP pK _ (q1+mkRat 1 7) (q2+mkRat 1 5):=⟨_,_,_,_,_,_,_,_,_,_,_,_,rfl,O_.le (Gw.trans ee),Pf.le ee⟩
  refine ⟨⟨by omega,by omega⟩,OL,b1,p1,n1',c1',b2,p2,n2,c2,b3,p3,n3,c3,⟨e_,Mb⟩,fun vY eF=>(K1 (L:=ms[j]) (hl.le eF) (hp.le eF) (k:=1000) bd.gO (tM.mono (by omega)) (Vk.mono (by omega)) (by omega)).mono ?_⟩
  rintro r zy jd rfl
  have Cu:=eF.trans jd
  refine ⟨_,rfl,fun hc xB gy=>(zQ (a:=ms[j].1) (b:=ms[j].2.1) (c:=ms[j].2.2) (hl.le (Cu.trans gy))).mono ?_,fun hc=>⟨(((j+1:Nat):Int),vs),by dsimp only;omega,by and_intros<;>rfl,j+1,ms,rfl,by omega,hml,hrow.le fun _ _ g=>eI.le g Cu,hvl,hms⟩⟩
  rintro r rF jo gr
  have Sb:eI rF r (iw ms[j]):=gr
  obtain ⟨_,_,_,_,_,_,_,_,_,_,_,_,rfl⟩:=dm Sb
  have KM:=Cu.trans (gy.trans jo)
  refine ⟨_,_,_,_,_,_,_,_,_,_,_,_,rfl,⟨by omega,by omega⟩,OL,e_,(((j+1:Nat):Int),cY vs (j*6) [_,_,_,_,_,_]),by dsimp only;omega,by and_intros<;>rfl,j+1,ms.set j (iw ms[j]),rfl,by omega,by rw [List.length_set];exact hml,?_,?_,?_⟩
  ·exact (hrow.le (V':=rF) fun _ _ g=>eI.le g KM).put hj (by decide) rfl Sb
  ·exact (qg (xs:=[_,_,_,_,_,_]) e_).trans hvl
  ·intro y hy
   rcases List.mem_or_eq_of_mem_set hy with hy|rfl
   ·exact hms y hy
   ·exact ⟨KV ok,bd.rev⟩
 ·refine ⟨at4,ms,mA bk c1,n1,c1,t4,e23,rfl,?_,by omega,hms⟩
  have e:n1=ms.length:=by omega
  rw [e]
  exact cS.fT hb (hrow.le fun _ _ g=>eI.le g gF) (by decide) (by omega)
def qz (c:List Sd)(p:Rat×Rat):Bool:=c.all fun s=>decide (0<=ar s.1 p.1 p.2)
def H6 (c:List Sd)(p:Rat×Rat):Bool:=c.all fun s=>decide (0<ar s.1 p.1 p.2)
theorem HC (q:Rat):q.num.sign<0↔¬0<=q:=by
 have:=@aq.qh q
 constructor
 ·intro h;have:=this.1 h;grind
 ·intro h;exact this.2 (by grind)
theorem HB (q:Rat):q.num.sign<=0↔¬0<q:=by
 have:=@aq.nZ q
 constructor
 ·intro h h';have:=this.2 h';omega
 ·intro h;by_cases c:q.num.sign>0
  ·exact absurd (this.1 c) h
  ·omega
theorem BZ {V:View}{p:OA}{n c:Nat}{cs:List Sd}{pv:Value}{x:Rat×Rat}(h:cS 17 fa V p n cs)(hp:kF V pv x.1 x.2)(s1:Sz 1000000000 x.1)(s2:Sz 1000000000 x.2)(hn:cs.length<=100000) :
  ab prog 116 #[.slice p n c,pv] V fun r V'=>r=.bool (qz cs x):=by
 have hp0:=hp
 obtain rfl:=h.len
 obtain ⟨_,_,_,_,_,_,rfl,-,-⟩:=hp
 refine qJ p _ c _ _ _ _ _ _ V _ ⟨fun z V'=>∃j:Nat,z=(j:Int)/\j<=cs.length/\qz (cs.take j) x=true,fun z=>cs.length-z.toNat,⟨0,by and_intros<;>rfl,0,rfl,Nat.zero_le _,rfl⟩,?_⟩
 rintro z1 V1 l1 ⟨j,rfl,Cs,hall⟩
 refine ⟨rfl,fun hlt=>?_,fun hlt V4 l4=>?_⟩
 ·have hlt:(j:Int)<cs.length:=of_decide_eq_true hlt
  have hi:j<cs.length:=by omega
  have w:i64.wrap ((j:Int)+1)=((j+1:Nat):Int):=by rw [ay (by omega)];rfl
  rw [Int.toNat_natCast,w]
  obtain ⟨ps,a1,a2,a3,a4,a5,a6,a7,a8,a9,b1,b2,b3,b4,b5,b6,a,ha,k0,k1,k2,k3,k4,k5,k6,k7,k8,k9,k10,k11,k12,k13,k14,k15,k16,hr⟩:=fq (h.le l1 fun _ _ g=>fa.le g l1) hi
  obtain ⟨rl,-,-,-⟩:=hr.both
  refine ⟨ps,⟨by omega,by omega⟩,_,_,_,_,_,_,_,_,_,_,_,_,_,_,_,_,_,a,ha,k0,k1,k2,k3,k4,k5,k6,k7,k8,k9,k10,k11,k12,k13,k14,k15,k16,fun V2 l2=>(Ct (rl.le l2) (hp0.le (l1.trans l2)) (hr.2.1.gO.up (by omega)) s1 s2 (by omega)).mono ?_⟩
  rintro r V3 l3 rfl
  refine ⟨_,rfl,fun hc V4 l4=>?_,fun hc=>⟨((j+1:Nat):Int),by dsimp only;omega,by and_intros<;>rfl,j+1,rfl,hi,?_⟩⟩
  ·have hc:=(HC _).1 (of_decide_eq_true hc)
   have e:qz cs x=false:=by
    unfold qz
    rw [List.all_eq_false]
    exact ⟨_,List.getElem_mem hi,by simpa using hc⟩
   rw [e]
  ·have hc:¬_:=fun h=>of_decide_eq_false hc ((HC _).2 h)
   have hc:=Classical.not_not.1 hc
   unfold qz at hall ⊢
   rw [List.take_add_one,List.getElem?_eq_getElem hi,List.all_append,hall]
   simpa using hc
 ·have hlt:¬(j:Int)<cs.length:=of_decide_eq_false hlt
  obtain rfl:j=cs.length:=by omega
  rw [List.take_length] at hall
  rw [hall]
theorem uJ {V:View}{p:OA}{n c:Nat}{cs:List Sd}{pv:Value}{x:Rat×Rat}(h:cS 17 fa V p n cs)(hp:kF V pv x.1 x.2)(s1:Sz 1000000000 x.1)(s2:Sz 1000000000 x.2)(hn:cs.length<=100000) :
  ab prog 117 #[.slice p n c,pv] V fun r V'=>r=.bool (H6 cs x):=by
 have hp0:=hp
 obtain rfl:=h.len
 obtain ⟨_,_,_,_,_,_,rfl,-,-⟩:=hp
 refine mY p _ c _ _ _ _ _ _ V _ ⟨fun z V'=>∃j:Nat,z=(j:Int)/\j<=cs.length/\H6 (cs.take j) x=true,fun z=>cs.length-z.toNat,⟨0,by and_intros<;>rfl,0,rfl,Nat.zero_le _,rfl⟩,?_⟩
 rintro z1 V1 l1 ⟨j,rfl,Cs,hall⟩
 refine ⟨rfl,fun hlt=>?_,fun hlt V4 l4=>?_⟩
 ·have hlt:(j:Int)<cs.length:=of_decide_eq_true hlt
  have hi:j<cs.length:=by omega
  have w:i64.wrap ((j:Int)+1)=((j+1:Nat):Int):=by rw [ay (by omega)];rfl
  rw [Int.toNat_natCast,w]
  obtain ⟨ps,a1,a2,a3,a4,a5,a6,a7,a8,a9,b1,b2,b3,b4,b5,b6,a,ha,k0,k1,k2,k3,k4,k5,k6,k7,k8,k9,k10,k11,k12,k13,k14,k15,k16,hr⟩:=fq (h.le l1 fun _ _ g=>fa.le g l1) hi
  obtain ⟨rl,-,-,-⟩:=hr.both
  refine ⟨ps,⟨by omega,by omega⟩,_,_,_,_,_,_,_,_,_,_,_,_,_,_,_,_,_,a,ha,k0,k1,k2,k3,k4,k5,k6,k7,k8,k9,k10,k11,k12,k13,k14,k15,k16,fun V2 l2=>(Ct (rl.le l2) (hp0.le (l1.trans l2)) (hr.2.1.gO.up (by omega)) s1 s2 (by omega)).mono ?_⟩
  rintro r V3 l3 rfl
  refine ⟨_,rfl,fun hc V4 l4=>?_,fun hc=>⟨((j+1:Nat):Int),by dsimp only;omega,by and_intros<;>rfl,j+1,rfl,hi,?_⟩⟩
  ·have hc:=(HB _).1 (of_decide_eq_true hc)
   have e:H6 cs x=false:=by
    unfold H6
    rw [List.all_eq_false]
    exact ⟨_,List.getElem_mem hi,by simpa using hc⟩
   rw [e]
  ·have hc:¬_:=fun h=>of_decide_eq_false hc ((HB _).2 h)
   have hc:=Classical.not_not.1 hc
   unfold H6 at hall ⊢
   rw [List.take_add_one,List.getElem?_eq_getElem hi,List.all_append,hall]
   simpa using hc
 ·have hlt:¬(j:Int)<cs.length:=of_decide_eq_false hlt
  obtain rfl:j=cs.length:=by omega
  rw [List.take_length] at hall
  rw [hall]
theorem pL (p:OA)(m n:Nat):ag (ag p m) n=ag p (m+n):=by
 cases p with
 | none=>rfl
 | some a=>exact congrArg some (rI a m n)
theorem GP {α:Type}{sz:Nat}{R:View->Value->α->Prop}{V:View}{p:OA}{n c:Nat}{s:α}{r:List α}(h:cS sz R V p n (s::r))(hc:n<=c):cS sz R V (kW p c 1 sz) (n-1) r:=by
 have hl:=h.len
 rw [List.length_cons] at hl
 refine ⟨by omega,fun i hi=>?_⟩
 obtain ⟨ad,h0,xs,h1,h2,h3⟩:=h.at_ (i+1) (by rw [List.length_cons];omega)
 refine ⟨ad,?_,xs,h1,h2,h3⟩
 unfold kW
 rw [if_neg (by omega),pL,←h0,Nat.one_mul,Nat.succ_mul,Nat.add_comm]
def sW:List Sd->Rat×Rat
 | []=>(0,0)
 | s::c=>(fB s.1 s.2.bq+iH (fB s.1 s.2.bq,fC s.1 s.2.bq) (aq.gi s.1) (c.map Prod.fst) 1*((2:Int):Rat)⁻¹*(aq.gi s.1).1,fC s.1 s.2.bq+iH (fB s.1 s.2.bq,fC s.1 s.2.bq) (aq.gi s.1) (c.map Prod.fst) 1*((2:Int):Rat)⁻¹*(aq.gi s.1).2)
theorem wO (p n:aq.V2)(m:L3):∀(r:List L3)(f:Rat),iH p n (r++[m]) f=if aq.nv m n<0 then kC (iH p n r f) (-(ar m p.1 p.2*(aq.nv m n)⁻¹)) else iH p n r f
 | [],f=>rfl
 | a::r,f=>by
  rw [List.cons_append]
  unfold iH
  rw [wO p n m r]
theorem IX {k:Nat}{x y:Rat}(h:Sz k x)(h':Sz k y):Sz k (kC x y):=by
 rcases (min_le x y).2.2 with e|e<;>rw [e]<;>assumption
set_option maxHeartbeats 1000000 in
theorem xL {V:View}{p:OA}{n c:Nat}{cs:List Sd}(h:cS 17 fa V p n cs)(hcap:n<=c)(hn:cs.length<=100000) :
  ab prog 84 #[.slice p n c] V fun r V'=>kF V' r (sW cs).1 (sW cs).2/\Sz 100000000 (sW cs).1/\Sz 100000000 (sW cs).2:=by
 have hl:=h.len
 refine ow p n c V _ ⟨fun h0 V1 l1=>?_,fun h0=>?_⟩
 ·have h0:cs=[]:=List.length_eq_zero_iff.1 (by have:=beq_iff_eq.1 h0;omega)
  subst h0
  exact ⟨⟨_,_,_,_,_,_,rfl,RR.zero _,RR.zero _⟩,Jj _ (by omega),Jj _ (by omega)⟩
 cases cs with
 | nil=>rw [hl] at h0;cases h0
 | cons s r=>
 have hr:=GP h hcap
 rw [List.length_cons] at hl hn
 obtain ⟨ps,a1,a2,a3,a4,a5,a6,a7,a8,a9,b1,b2,b3,b4,b5,b6,a,ha,k0,k1,k2,k3,k4,k5,k6,k7,k8,k9,k10,k11,k12,k13,k14,k15,k16,hs⟩:=fq h (i:=0) (by rw [List.length_cons];omega)
 obtain ⟨rl,ri,-,-⟩:=hs.both
 have sd:=hs.2
 have hs0:(s::r)[0]=s:=rfl
 rw [hs0] at rl ri sd k15 k16
 clear hs
 have R0:ag (ag p 0) 0=some a:=by rw [pL];simpa using ha
 have TU:ag (ag p 0) 9=some (a.add 9):=by
  rw [Nat.zero_mul] at ha
  rw [ha];rfl
 have ps0:(ag p 0).isSome=true:=by
  cases p with
  | none=>cases ps
  | some _=>rfl
 have at9:∀(i:Nat) v,V.at (a.add (9+i)) v->V.at ((a.add 9).add i) v:=fun i v hv=>by rw [rI];exact hv
 have Lb:=D9 sd.2
 have sx:=HL (sd.1.gO.up (show 1000<=200010 by omega)) (Lb.mono (show 2*100000+10<=200010 by omega))
 have sy:=HM (sd.1.gO.up (show 1000<=200010 by omega)) (Lb.mono (show 2*100000+10<=200010 by omega))
 have n1:Sz 1000 (aq.gi s.1).1:=sd.1.gO.1
 have n2:Sz 1000 (aq.gi s.1).2:=sd.1.gO.2.1
 refine ⟨ps,⟨by omega,by omega⟩,ps0,_,_,_,_,_,_,_,_,_,a,R0,k0,k1,k2,k3,k4,k5,k6,k7,k8,ps,⟨by omega,by omega⟩,ps0,_,_,_,_,_,_,_,_,a.add 9,TU,at9 0 _ k9,at9 1 _ k10,at9 2 _ k11,at9 3 _ k12,at9 4 _ k13,at9 5 _ k14,at9 6 _ k15,at9 7 _ k16,
  ps,⟨by omega,by omega⟩,ps0,_,_,_,_,_,_,_,_,_,a,R0,k0,k1,k2,k3,k4,k5,k6,k7,k8,fun V2 l2=>(pP (ri.le l2) sd.2 (by omega)).mono ?_⟩
 rintro q V3 l3 g3
 have lT:=g3
 obtain ⟨_,_,_,rfl⟩:=g3.shape
 refine ⟨_,_,_,rfl,fun V4 l4=>(ML (rl.le (l2.trans (l3.trans l4))) (lT.le l4) (k:=200010) (sd.1.gO.up (by omega)) (Lb.mono (by omega)) (by omega)).mono ?_⟩
 rintro q V5 l5 g5
 have EJ:=g5
 obtain ⟨_,_,_,_,_,_,rfl,-,-⟩:=g5
 have L5:V.Le V5:=l2.trans (l3.trans (l4.trans l5))
 refine ⟨_,_,_,_,_,_,rfl,fun V6 l6=>(bR (rl.le (L5.trans l6)) sd.1.gO.1 sd.1.gO.2.1 sd.1.gO.2.2 (by omega)).mono ?_⟩
 rintro q V7 l7 g7
 have Ft:kF V7 q (aq.gi s.1).1 (aq.gi s.1).2:=g7
 obtain ⟨_,_,_,_,_,_,rfl,-,-⟩:=g7
 refine ⟨_,_,_,_,_,_,rfl,fun V8 l8=>(fF 1 (by decide) (by decide)).mono ?_⟩
 rintro q V9 l9 g9
 have Ps:=g9
 obtain ⟨_,_,_,rfl⟩:=g9.shape
 have KO:V5.Le V9:=l6.trans (l7.trans (l8.trans l9))
 have L9:=L5.trans KO
 have SM:((1:Int):Rat)=1:=rfl
 refine ⟨_,_,_,rfl,⟨by omega,by omega⟩,fun z V'=>∃j:Nat,z.1=(j:Int)/\j<=r.length/\RR V' (.agg #[.int .i64 z.2.1,.int .i64 z.2.2.1,.pointer z.2.2.2]) (iH (fB s.1 s.2.bq,fC s.1 s.2.bq) (aq.gi s.1) ((r.take j).map Prod.fst) 1)/\Sz 30000000 (iH (fB s.1 s.2.bq,fC s.1 s.2.bq) (aq.gi s.1) ((r.take j).map Prod.fst) 1),fun z=>r.length-z.1.toNat,
  ⟨(0,_,_,_),by and_intros<;>rfl,0,rfl,Nat.zero_le _,Ps,fV.mono (by omega)⟩,?_⟩
 rintro ⟨z1,z2,z3,z4⟩ jr l10 ⟨j,e1,Cs,hg,hz⟩
 dsimp only at e1 hg
 subst e1
 have Lj:=L9.trans l10
 have JL:=KO.trans l10
 have JO:V7.Le jr:=l8.trans (l9.trans l10)
 generalize hx:(fB s.1 s.2.bq,fC s.1 s.2.bq)=X at *
 have TW:fB s.1 s.2.bq=X.1:=by rw [←hx]
 have TX:fC s.1 s.2.bq=X.2:=by rw [←hx]
 rw [TW] at sx EJ
 rw [TX] at sy EJ
 refine ⟨rfl,fun hlt=>?_,fun hlt H3 oH=>?_⟩
 ·have hlt:(j:Int)<((n-1:Nat):Int):=of_decide_eq_true hlt
  have hi:j<r.length:=by omega
  have w:i64.wrap ((j:Int)+1)=((j+1:Nat):Int):=by rw [ay (by omega)];rfl
  dsimp only
  rw [Int.toNat_natCast,w]
  obtain ⟨ps',a1',RT,a3',a4',RU,a6',Wk,Wl,Wm,b1',b2',b3',Wn,Wo,Wp,a',ha',m0,m1,m2,m3,m4,m5,m6,m7,m8,m9,m10,m11,m12,m13,m14,m15,m16,hs'⟩:=fq (hr.le Lj fun _ _ g=>fa.le g Lj) hi
  obtain ⟨rl',-,-,-⟩:=hs'.both
  have Ff:=hs'.2.1
  have ef:iH X (aq.gi s.1) ((r.take (j+1)).map Prod.fst) 1=if aq.nv r[j].1 (aq.gi s.1)<0 then kC (iH X (aq.gi s.1) ((r.take j).map Prod.fst) 1) (-(ar r[j].1 X.1 X.2*(aq.nv r[j].1 (aq.gi s.1))⁻¹)) else iH X (aq.gi s.1) ((r.take j).map Prod.fst) 1:=by
   rw [List.take_add_one,List.getElem?_eq_getElem hi,List.map_append]
   exact wO _ _ _ _ _
  generalize iH X (aq.gi s.1) ((r.take j).map Prod.fst) 1=F at *
  generalize r[j]=T at *
  have QX:Sz 5000 (aq.nv T.1 (aq.gi s.1)):=((Ff.gO.1.mul n1).add (Ff.gO.2.1.mul n2)).mono (by omega)
  have SS:Sz 10000000 (ar T.1 X.1 X.2):=(((Ff.gO.1.mul sx).add (Ff.gO.2.1.mul sy)).add Ff.gO.2.2).mono (by omega)
  refine ⟨ps',⟨by omega,by omega⟩,_,_,_,_,_,_,_,_,_,_,_,_,_,_,_,_,_,a',ha',m0,m1,m2,m3,m4,m5,m6,m7,m8,m9,m10,m11,m12,m13,m14,m15,m16,fun jP bN=>(bR (rl'.le bN) Ff.gO.1 Ff.gO.2.1 Ff.gO.2.2 (by omega)).mono ?_⟩
  rintro q nk cK g12
  have Pa:=g12
  obtain ⟨_,_,_,_,_,_,rfl,-,-⟩:=g12
  refine ⟨_,_,_,_,_,_,rfl,fun qu c_=>(gI (Pa.le c_) (Ft.le (JO.trans (bN.trans (cK.trans c_)))) Ff.gO.1 Ff.gO.2.1 n1 n2 (by omega)).mono ?_⟩
  rintro q nq eR g14
  have Kp:RR nq q (aq.nv T.1 (aq.gi s.1)):=g14
  obtain ⟨_,_,_,rfl⟩:=Kp.shape
  refine ⟨_,_,_,rfl,fun ma dR=>(dw (Kp.le dR) QX (by omega)).mono ?_⟩
  rintro q mb dS rfl
  have yk:jr.Le mb:=bN.trans (cK.trans (c_.trans (eR.trans (dR.trans dS))))
  refine ⟨_,rfl,fun hc oF dk=>(hJ (k:=5000000) (rl'.le (yk.trans dk)) (EJ.le (JL.trans (yk.trans dk))) (Ff.gO.1.mono (by omega)) (Ff.gO.2.1.mono (by omega)) (Ff.gO.2.2.mono (by omega)) (sx.mono (by omega)) (sy.mono (by omega)) (by omega)).mono ?_,fun hc=>⟨(((j+1:Nat):Int),z2,z3,z4),by dsimp only;omega,by and_intros<;>rfl,j+1,rfl,hi,?_,?_⟩⟩
  ·have hc:aq.nv T.1 (aq.gi s.1)<0:=aq.qh.1 (of_decide_eq_true hc)
   rw [if_pos hc] at ef
   rintro q pK ee g18
   have Mf:RR pK q (ar T.1 X.1 X.2):=g18
   obtain ⟨_,_,_,rfl⟩:=Mf.shape
   refine ⟨_,_,_,rfl,fun vY eF=>(lE (Mf.le eF) (Kp.le (dR.trans (dS.trans (dk.trans (ee.trans eF))))) SS QX (by omega)).mono ?_⟩
   rintro q zy jd g20
   have Pg:=g20
   obtain ⟨_,_,_,rfl⟩:=g20.shape
   have QY:=SS.mul (dI QX)
   refine ⟨_,_,_,rfl,fun xB gy=>(lD (Pg.le gy) QY (by omega)).mono ?_⟩
   rintro q rF jo g22
   have Ph:=g22
   obtain ⟨_,_,_,rfl⟩:=g22.shape
   refine ⟨_,_,_,rfl,fun zt gF=>(rV (hg.le (yk.trans (dk.trans (ee.trans (eF.trans (jd.trans (gy.trans (jo.trans gF)))))))) (Ph.le gF) hz (QY.neg.mono (by omega)) (by omega)).mono ?_⟩
   rintro q Ia BM g24
   have Pj:=g24
   obtain ⟨_,_,_,rfl⟩:=g24.shape
   refine ⟨_,_,_,rfl,(((j+1:Nat):Int),_,_,_),by dsimp only;omega,by and_intros<;>rfl,j+1,rfl,hi,?_,?_⟩
   ·rw [ef];exact Pj
   ·rw [ef];exact IX hz (QY.neg.mono (by omega))
  ·have hc:¬aq.nv T.1 (aq.gi s.1)<0:=fun h=>of_decide_eq_false hc (aq.qh.2 h)
   rw [ef,if_neg hc]
   exact hg.le yk
  ·have hc:¬aq.nv T.1 (aq.gi s.1)<0:=fun h=>of_decide_eq_false hc (aq.qh.2 h)
   rw [ef,if_neg hc]
   exact hz
 ·have hlt:¬(j:Int)<((n-1:Nat):Int):=of_decide_eq_false hlt
  obtain rfl:j=r.length:=by omega
  rw [List.take_length] at hg hz
  have ei:sW (s::r)=(X.1+iH X (aq.gi s.1) (r.map Prod.fst) 1*((2:Int):Rat)⁻¹*(aq.gi s.1).1,X.2+iH X (aq.gi s.1) (r.map Prod.fst) 1*((2:Int):Rat)⁻¹*(aq.gi s.1).2):=by
   subst hx
   rfl
  rw [ei]
  generalize iH X (aq.gi s.1) (r.map Prod.fst) 1=F at *
  refine (rR (hg.le oH) hz (by omega)).mono ?_
  rintro q Jt vd Mi
  have Pk:=Mi
  obtain ⟨_,_,_,rfl⟩:=Mi.shape
  have QW:=hz.mul (dI km)
  refine ⟨_,_,_,rfl,fun J5 kD=>(hU (k:=40000000) (Ft.le (JO.trans (oH.trans (vd.trans kD)))) (Pk.le kD) (n1.mono (by omega)) (n2.mono (by omega)) (QW.mono (by omega)) (by omega)).mono ?_⟩
  rintro q Ju DN Mj
  have Pl:kF Ju q (F*((2:Int):Rat)⁻¹*(aq.gi s.1).1) (F*((2:Int):Rat)⁻¹*(aq.gi s.1).2):=by
   rw [Rat.mul_comm (F*((2:Int):Rat)⁻¹) (aq.gi s.1).1,Rat.mul_comm (F*((2:Int):Rat)⁻¹) (aq.gi s.1).2]
   exact Mj
  obtain ⟨_,_,_,_,_,_,rfl,-,-⟩:=Mj
  have t1:=QW.mul n1
  have t2:=QW.mul n2
  refine ⟨_,_,_,_,_,_,rfl,fun LI zu=>(nC (k:=40000000) (EJ.le (JL.trans (oH.trans (vd.trans (kD.trans (DN.trans zu)))))) (Pl.le zu) (sx.mono (by omega)) (sy.mono (by omega)) (t1.mono (by omega)) (t2.mono (by omega)) (by omega)).mono ?_⟩
  rintro q J6 BN Mk
  have Pm:=Mk
  obtain ⟨_,_,_,_,_,_,rfl,-,-⟩:=Mk
  exact ⟨_,_,_,_,_,_,rfl,fun OU H7=>⟨Pm.le H7,(sx.add t1).mono (by omega),(sy.add t2).mono (by omega)⟩⟩
def Dm (V:View)(w:Value)(p:Rat×Rat):Prop:=(∃b q n c q' n' c' d r m e r' m' e',w=.agg #[.bool b,.slice q n c,.slice q' n' c',.bool d,.slice r m e,.slice r' m' e']) /\
 ∀V1,V.Le V1->ab prog 115 #[w] V1 fun r V'=>kF V' r p.1 p.2
theorem Dm.le {V V':View}{w:Value}{p:Rat×Rat}(h:Dm V w p)(l:V.Le V'):Dm V' w p:=⟨h.1,fun V1 l1=>h.2 V1 (l.trans l1)⟩
theorem Dm.of {V:View}{w:Value}{p:Rat×Rat}(h:Ee V w p.1 p.2){k:Nat}(s1:Sz k p.1)(s2:Sz k p.2)(hk:k<=1099511627776):Dm V w p:=by
 refine ⟨?_,fun V1 l1=>B4 (h.le l1) s1 s2 hk⟩
 obtain ⟨b,q,n,c,q',n',c',d,r,m,e,r',m',e',rfl,-⟩:=h
 exact ⟨_,_,_,_,_,_,_,_,_,_,_,_,_,_,rfl⟩
theorem Dm.raw {V:View}{b d:Bool}{q q' r r':OA}{n c n' c' m e m' e':Nat}{xs ys us vs:List Nat}(h1:RD V q n c xs)(h2:RD V q' n' c' ys)(h3:RD V r m e us)(h4:RD V r' m' e' vs)(k1:xs.length<=1000000)(k2:ys.length<=1000000)(k3:us.length<=1000000)(k4:vs.length<=1000000) :
  Dm V (.agg #[.bool b,.slice q n c,.slice q' n' c',.bool d,.slice r m e,.slice r' m' e']) (mkRat (aS b xs) (val ys),mkRat (aS d us) (val vs)):=by
 refine ⟨⟨_,_,_,_,_,_,_,_,_,_,_,_,_,_,rfl⟩,fun V0 l0=>?_⟩
 refine qp b q n c q' n' c' d r m e r' m' e' V0 _ fun V1 l1=>(mC b (h1.le (l0.trans l1)) (h2.le (l0.trans l1)) (by omega) (by omega)).mono ?_
 rintro r V2 l2 g
 have g0:=g
 obtain ⟨x1,x2,x3,rfl⟩:=g.shape
 refine ⟨_,_,_,rfl,fun V3 l3=>(mC d (h3.le (l0.trans (l1.trans (l2.trans l3)))) (h4.le (l0.trans (l1.trans (l2.trans l3)))) (by omega) (by omega)).mono ?_⟩
 rintro r V4 l4 g'
 have g0':=g'
 obtain ⟨y1,y2,y3,rfl⟩:=g'.shape
 exact ⟨_,_,_,rfl,fun V5 l5=>⟨_,_,_,_,_,_,rfl,g0.le (l3.trans (l4.trans l5)),g0'.le l5⟩⟩
theorem Dm.zero {V:View}:Dm V (.agg #[.bool false,.slice none 0 0,.slice none 0 0,.bool false,.slice none 0 0,.slice none 0 0]) (0,0):=by
 have e:mkRat (aS false []) (val [])=0:=by decide
 have:=@Dm.raw V false false none none none none 0 0 0 0 0 0 0 0 [] [] [] [] RD.nil RD.nil RD.nil RD.nil (by decide) (by decide) (by decide) (by decide)
 rw [e] at this
 exact this
def uW (cs:List Sd)(x:Rat×Rat):Int:=if qz cs x=true then (if H6 cs x=true then 2 else 1) else 0
theorem g_ {V:View}{p:OA}{n c:Nat}{ls:List L3}(h:cS 6 oJ V p n ls)(hb:∀l∈ls,Bd l){pv:Value}{x:Rat×Rat}(hp:Dm V pv x)(s1:Sz 1000000000 x.1)(s2:Sz 1000000000 x.2){yi ye yu:Value}(E:Er V yi ye yu) :
  ab prog 50 #[.agg #[.slice p n c],pv] V fun r V'=>BJ ls (r=.tuple #[.int .i64 0,yi]) (r=.tuple #[.int .i64 0,.nilIface]) fun cs=>r=.tuple #[.int .i64 (uW cs x),.nilIface]:=by
 have hp0:=hp
 obtain ⟨⟨_,_,_,_,_,_,_,_,_,_,_,_,_,_,rfl⟩,-⟩:=hp
 refine qF p n c _ _ _ _ _ _ _ _ _ _ _ _ _ _ V _ fun V1 l1=>(wo (h.le l1 fun _ _ g=>oJ.le g l1) hb).mono ?_
 rintro r V2 l2 ⟨q,m,e,rfl,g⟩
 have L2:=l1.trans l2
 refine ⟨_,_,_,_,rfl,fun ho=>⟨yi,⟨_,rfl,(E.le L2).inv⟩,fun V3 l3=>.inl ⟨by simpa using ho,rfl⟩⟩,fun ho V4 l4=>?_⟩
 have ho:vf ls=true:=by simpa using ho
 have hg:=g ho
 refine (nA (hg.le l4 fun _ _ g=>vW.le g l4) (lJ ho).2 (by have:=(lJ ho).1;omega)).mono ?_
 rintro r V5 l5 ⟨q',m',e',rfl,hn,hs⟩
 refine ⟨_,_,_,_,rfl,fun V6 l6=>(hp0.2 V6 (L2.trans (l4.trans (l5.trans l6)))).mono ?_⟩
 rintro r V7 l7 gp
 have Lo:=gp
 obtain ⟨_,_,_,_,_,_,rfl,-,-⟩:=gp
 refine ⟨_,_,_,_,_,_,rfl,fun hf V8 l8=>?_,fun hf V9 l9=>?_⟩
 ·have hf:bE ls [] []=none:=by simpa using hf
  exact .inr (.inl ⟨ho,hf,rfl⟩)
 ·have hf:(bE ls [] []).isSome=true:=by simpa using hf
  obtain ⟨cs,hc⟩:=Option.isSome_iff_exists.1 hf
  obtain ⟨hL,-⟩:=hs cs hc
  have hl:=sn hc ho
  have KO:=l6.trans (l7.trans l9)
  refine (BZ (hL.le KO fun _ _ g=>fa.le g KO) (Lo.le l9) s1 s2 hl).mono ?_
  rintro r jr l10 rfl
  refine ⟨_,rfl,fun h1 jP bN=>?_,fun h1 nk cK=>(uJ (hL.le (KO.trans (l10.trans cK)) fun _ _ g=>fa.le g (KO.trans (l10.trans cK))) (Lo.le (l9.trans (l10.trans cK))) s1 s2 hl).mono ?_⟩
  ·have h1:qz cs x=false:=by simpa using h1
   refine .inr (.inr ⟨ho,cs,hc,?_⟩)
   unfold uW
   dsimp only
   rw [if_neg (by rw [h1];exact Bool.false_ne_true)]
  ·have h1:qz cs x=true:=by simpa using h1
   rintro r qu c_ rfl
   refine ⟨_,rfl,fun h2 nq eR=>.inr (.inr ⟨ho,cs,hc,?_⟩),fun h2 ma dR=>.inr (.inr ⟨ho,cs,hc,?_⟩)⟩
   ·unfold uW
    dsimp only
    rw [if_pos h1,if_pos h2]
   ·unfold uW
    dsimp only
    rw [if_pos h1,if_neg (by rw [h2];exact Bool.false_ne_true)]
theorem rU {V:View}{p:OA}{n c:Nat}{ls:List L3}(h:cS 6 oJ V p n ls)(hb:∀l∈ls,Bd l){yi ye yu:Value}(E:Er V yi ye yu) :
  ab prog 26 #[.agg #[.slice p n c]] V fun r V'=>BJ ls (r=.tuple #[.agg #[.bool false,.slice none 0 0,.slice none 0 0,.bool false,.slice none 0 0,.slice none 0 0],yi]) (r=.tuple #[.agg #[.bool false,.slice none 0 0,.slice none 0 0,.bool false,.slice none 0 0,.slice none 0 0],ye])
   fun cs=>∃w,r=.tuple #[w,.nilIface]/\Ee V' w (sW cs).1 (sW cs).2/\Sz 100000000 (sW cs).1/\Sz 100000000 (sW cs).2:=by
 refine qG p n c V _ fun V1 l1=>(fN (h.le l1 fun _ _ g=>oJ.le g l1) hb (E.le l1)).mono ?_
 rintro r V2 l2 (⟨ho,rfl⟩|⟨ho,hc,rfl⟩|⟨ho,cs,hc,⟨q,m,e,rfl,hL,hm⟩,hC,hl⟩)
 ·obtain ⟨i1,i2⟩:=nH E.si
  exact ⟨_,_,_,_,rfl,i1,fun _ V3 l3=>.inl ⟨ho,rfl⟩,fun hf=>by rw [i2] at hf;cases hf⟩
 ·obtain ⟨i1,i2⟩:=nH E.se
  exact ⟨_,_,_,_,rfl,i1,fun _ V3 l3=>.inr (.inl ⟨ho,hc,rfl⟩),fun hf=>by rw [i2] at hf;cases hf⟩
 ·refine ⟨_,_,_,_,rfl,eC.1,(fun hf=>by cases hf),fun _ V4 l4=>(xL (hL.le l4 fun _ _ g=>fa.le g l4) hm hl).mono ?_⟩
  rintro r V5 l5 ⟨g,t1,t2⟩
  have g0:=g
  obtain ⟨_,_,_,_,_,_,rfl,-,-⟩:=g
  refine ⟨_,_,_,_,_,_,rfl,fun V6 l6=>(nB (g0.le l6) t1 t2 (by omega)).mono ?_⟩
  rintro r V7 l7 ga
  have On:=ga
  obtain ⟨_,_,_,_,_,_,_,_,_,_,_,_,_,_,rfl,-⟩:=ga
  exact ⟨_,_,_,_,_,_,_,_,_,_,_,_,_,_,rfl,fun V8 l8=>.inr (.inr ⟨ho,cs,hc,_,rfl,On.le l8,t1,t2⟩)⟩
def DI (V:View):View:=⟨V.w,fun b=>b<V.w.heap.size,fun _=>False,fun _ h=>h,fun _ h=>h.elim⟩
theorem BS {f:FuncId}{args:Array Value}{V:View}{o:Obj}(h:ab prog f args (DI V) fun r V'=>∃bk,r=.pointer (some ⟨bk,0,none⟩)/\V'.br bk o) :
  ab prog f args V fun r V'=>∃bk,r=.pointer (some ⟨bk,0,none⟩)/\V.w.heap.size<=bk/\V'.br bk o:=
 ⟨h.1,h.2.mono fun _ _ ⟨_,he,hx,bk,hr,hb⟩=>⟨_,he,⟨hx.size,fun b hb _=>hx.br b hb (fun h=>h),hx.os,hx.tape,hx.out⟩,bk,hr,Nat.le_of_not_lt hb.1,fun hh=>hb.1 (V.hH bk hh),hb.2⟩⟩
theorem zT {V:View}{lp:OA}{ln lc:Nat}(hc:ln<=lc) :
  ab prog 21 #[.slice lp ln lc] V fun r V'=>∃bk,r=.pointer (some ⟨bk,0,none⟩)/\V.w.heap.size<=bk/\V'.br bk (.cells #[.slice lp (min ln 400) lc,.int .i64 0] 136 (0,0)):=by
 refine BS (zg lp ln lc (DI V) _ ?_)
 have e:bI (ln:Int) 400=((min ln 400:Nat):Int):=by
  unfold bI
  simp only [Nat.min_def]
  split<;>split<;>omega
 rw [e,Int.toNat_natCast]
 have:=Nat.min_le_left ln 400
 exact ⟨⟨by omega,by omega⟩,fun V1 l1 bk hb=>⟨bk,rfl,hb⟩⟩
theorem GL {V1 V2 V3:View}{bk:Nat}(l2:V1.Le V2)(hfr:V1.w.heap.size<=bk)(l3:(V2.Gk bk).Le V3):V1.Le V3:=fun b o h=>l3 b o ⟨fun hh=>hh.elim (l2 b o h).1 fun e=>by
  have hlt:b<V1.w.heap.size:=by
   rcases Nat.lt_or_ge b V1.w.heap.size with h'|h'
   ·exact h'
   ·have:=h.2;rw [Array.getElem?_eq_none h'] at this;cases this
  have:=e.1
  omega,(l2 b o h).2⟩
end Go.Proofs.Tryz
namespace Go.Proofs.Tryz
open Go.bw
set_option maxRecDepth 100000
end Go.Proofs.Tryz
namespace Go.Proofs.Tryz
open Go.bw Go.eN
end Go.Proofs.Tryz
namespace Go.Proofs.Tryz
open Go.bw
set_option maxRecDepth 100000
end Go.Proofs.Tryz
namespace Go.Proofs.Tryz
open Go.bw Go.eN
theorem K6 {ls:List L3}(hk:∀m∈ls,dV m=true):∀m∈ls.reverse,dV m=true:=fun m hm=>hk m (List.mem_reverse.1 hm)
theorem Dw {V:View}{v:Value}{x y:Rat}(h:Ee V v x y){k:Nat}(s1:Sz k x)(s2:Sz k y)(hk:k<=274877906944):ab prog 34 #[v] V fun r V'=>RP V' r x y:=by
 obtain ⟨_,_,_,_,_,_,_,_,_,_,_,_,_,_,rfl,h1,h2⟩:=h
 refine BG _ _ _ _ _ _ _ _ _ _ _ _ _ _ V _ fun V1 l1=>(B1 (h1.le l1) s1 hk).mono ?_
 rintro r V2 l2 ⟨p3,n3,c3,p4,n4,c4,rfl,r1,r2⟩
 refine ⟨_,_,_,_,_,_,_,rfl,fun V3 l3=>(B1 (h2.le (l1.trans (l2.trans l3))) s2 hk).mono ?_⟩
 rintro r V4 l4 ⟨p1,n1,c1,p2,n2,c2,rfl,q1,q2⟩
 exact ⟨_,_,_,_,_,_,_,rfl,fun V5 l5=>⟨_,_,_,_,_,_,_,_,_,_,_,_,rfl,⟨_,_,_,_,_,_,rfl,r1.le (l3.trans (l4.trans l5)),r2.le (l3.trans (l4.trans l5))⟩,⟨_,_,_,_,_,_,rfl,q1.le l5,q2.le l5⟩⟩⟩
theorem F0 {M:List L3}{c:List Sd}(h:fW M c){x:Rat×Rat}(hx:aq.pos M x):uW c x=2:=by
 have h1:H6 c x=true:=by
  unfold H6
  rw [List.all_eq_true]
  exact fun s hs=>decide_eq_true (hx _ (h.mem s hs).1)
 have h2:qz c x=true:=by
  unfold qz
  rw [List.all_eq_true]
  exact fun s hs=>decide_eq_true (Rat.le_of_lt (hx _ (h.mem s hs).1))
 unfold uW
 rw [if_pos h2,if_pos h1]
theorem FZ {M:List L3}{c:List Sd}(h:fW M c){x:Rat×Rat}(hx:∀m∈M,0<=ar m x.1 x.2){s:Sd}(hs:s∈c)(h0:ar s.1 x.1 x.2=0):uW c x=1:=by
 have h1:H6 c x=false:=by
  unfold H6
  rw [List.all_eq_false]
  exact ⟨s,hs,by rw [h0];decide⟩
 have h2:qz c x=true:=by
  unfold qz
  rw [List.all_eq_true]
  exact fun s hs=>decide_eq_true (hx _ (h.mem s hs).1)
 unfold uW
 rw [if_pos h2,if_neg (by rw [h1];exact Bool.false_ne_true)]
theorem ER {M:List L3}{c:List Sd}(h:fW M c)(hk:∀m∈M,dV m=true):aq.pos M (sW c):=by
 cases c with
 | nil=>
  have:M=[]:=Classical.byContradiction fun hM=>by
   obtain ⟨q,hq⟩:=h.pos
   obtain ⟨l,hl,e⟩:=aq.It (F7 hk hq) (fun m hm=>CD (hk m hm)) hq hM
   obtain ⟨v,hv⟩:=h.all l hl e
   cases hv
  rw [this]
  exact fun m hm=>by cases hm
 | cons s r=>exact Gr h hk rfl
theorem HZ {M:List L3}{c:List Sd}(h:fW M c)(hk:∀m∈M,dV m=true){x:Rat×Rat}(hx:x∈ko (c.map Prod.fst)):(∀m∈M,0<=ar m x.1 x.2)/\∃s∈c,ar s.1 x.1 x.2=0:=by
 rw [Ed] at hx
 obtain ⟨i,hi,e⟩:=List.mem_filterMap.1 hx
 rw [List.mem_range,List.length_map] at hi
 have hk2:(i+1)%c.length<c.length:=Nat.mod_lt _ (by omega)
 unfold zh at e
 rw [List.length_map,fS (by rw [List.length_map];exact hi:i<(c.map Prod.fst).length),fS (by rw [List.length_map];exact hk2:(i+1)%c.length<(c.map Prod.fst).length),List.getElem_map,List.getElem_map] at e
 split at e
 ·rename_i hc
  cases e
  have hne:bu (c[i]).1 (c[(i+1)%c.length]).1≠0:=by rw [←sB];grind
  exact ⟨Jn h hk hi rfl rfl hc,c[i],List.getElem_mem hi,(HT hne).1⟩
 ·cases e
set_option maxHeartbeats 1000000 in
theorem lR {V:View}{lp:OA}{ln lc:Nat}(hr:Fs V lp ln)(hc:ln<=lc){yi ye yu:Value}(E:Er V yi ye yu) :
  ab prog 10 #[.slice lp ln lc] V fun r V'=>r=.bool true:=by
 refine lu lp ln lc V _ fun V1 l1=>(zT hc).mono ?_
 rintro r V2 l2 ⟨tb,rfl,hfr,hb⟩
 have hrm:Fs V lp (min ln 400):=fun i hi=>hr i (by have:=Nat.min_le_left ln 400;omega)
 have Ms:min ln 400<=400:=Nat.min_le_right ln 400
 generalize min ln 400=m at *
 refine ⟨tb,lp,m,lc,0,rfl,hfr,hb,fun V3 l3 TM e3 h3=>?_⟩
 have c_:V1.Le V3:=GL l2 hfr l3
 refine (Kf (V:=V3.bf [TM]) (hrm.le fun b o h=>c_ b o (l1 b o h)) Ms e3 ⟨by simp,h3⟩ (Int.le_refl 0)).mono ?_
 rintro r V4 l4 ⟨FJ,ls,q,n1,c1,t1,hw1,rfl,hL,hlen,hls⟩
 have hok:∀l∈ls,dV l=true:=fun l hl=>(hls l hl).1
 have hbd:∀l∈ls,Bd l:=fun l hl=>(hls l hl).2
 refine ⟨_,_,_,rfl,_,_,_,_,hw1,fun V5 l5=>(mj (hL.le (V:=V4) (V':=V5) (fun b o h=>l5 b o h) fun _ _ g=>eI.le (V:=V4) (V':=V5) g fun b o h=>l5 b o h) (by omega) hbd).mono ?_⟩
 rintro r V6 l6 ⟨q2,n2,c2,rfl,hW⟩
 have MS:V3.Le V6:=fun b o h=>l6 b o (l5 b o (l4 b o h))
 have L6:V.Le V6:=l1.trans (c_.trans MS)
 have wq:∀{W:View},V6.Le W->cS 6 oJ W q2 n2 ls:=fun l=>cS.q (hW.le l fun _ _ g=>eI.le g l)
 refine ⟨_,_,_,rfl,fun V7 l7=>(rU (wq l7) hbd (E.le (L6.trans l7))).mono ?_⟩
 have oC:vf ls=true:=KU (by omega) hok
 rintro r V8 l8 hC
 have JM:=l7.trans l8
 have L8:=L6.trans JM
 cases hcan:bE ls [] [] with
 | none=>
  obtain rfl:=hC.Qn oC hcan
  obtain ⟨i1,i2⟩:=nH E.se
  refine ⟨_,_,_,_,_,_,_,_,_,_,_,_,_,_,_,rfl,i1,fun _ V9 l9=>(mg (E.le (L8.trans l9))).mono ?_,fun hf=>by rw [i2] at hf;cases hf⟩
  rintro r jr l10 rfl
  refine ⟨_,rfl,fun _=>⟨ye,⟨_,rfl,(E.le (L8.trans (l9.trans l10))).emp⟩,fun jP bN=>(oQ E.se).mono ?_⟩,fun hf=>by cases hf⟩
  rintro r nk cK rfl
  exact ⟨_,rfl,fun qu c_=>rfl⟩
 | some cs=>
  obtain ⟨w,rfl,hp,z1,z2⟩:=hC.some oC hcan
  have Lr:=(sr fW.nil (fun m hm=>by cases hm) hok).1 cs hcan
  rw [List.append_nil] at Lr
  have Su:∀m∈ls.reverse,dV m=true:=K6 hok
  have hpos:=ER Lr Su
  have hin:=F0 Lr hpos
  generalize sW cs=P at *
  have hp0:=hp
  obtain ⟨_,_,_,_,_,_,_,_,_,_,_,_,_,_,rfl,-⟩:=hp
  refine ⟨_,_,_,_,_,_,_,_,_,_,_,_,_,_,_,rfl,eC.1,(fun hf=>by cases hf),fun _ ma dR=>(iL (wq (JM.trans dR)) hbd (E.le (L8.trans dR))).mono ?_⟩
  rintro r mb dS JB
  obtain ⟨q3,n3,c3,rfl,hV,UO⟩:=JB.some oC hcan
  clear JB
  have DP:=dR.trans dS
  refine ⟨_,_,_,_,rfl,fun oF dk=>(g_ (wq (JM.trans (DP.trans dk))) hbd (Dm.of (hp0.le (DP.trans dk)) z1 z2 (by omega)) (z1.mono (by omega)) (z2.mono (by omega)) (E.le (L8.trans (DP.trans dk)))).mono ?_⟩
  rintro r pK ee hK
  obtain rfl:=hK.some oC hcan
  rw [hin]
  have MH:∀x∈ko (cs.map Prod.fst),uW cs x=1/\uW cs ((P.1+x.1)*((2:Int):Rat)⁻¹,(P.2+x.2)*((2:Int):Rat)⁻¹)=2:=fun x hx=>by
   obtain ⟨v1,s,hs,v2⟩:=HZ Lr Su hx
   exact ⟨FZ Lr v1 hs v2,F0 Lr (KP hpos v1)⟩
  have Q_:=zj (cs.map Prod.fst)
  have O8:=oT hcan
  rw [List.length_nil] at O8
  rw [List.length_map] at Q_
  generalize ko (cs.map Prod.fst)=A at *
  obtain rfl:=hV.len
  have MX:=DP.trans (dk.trans ee)
  refine ⟨_,_,rfl,eC.1,(fun hf=>by cases hf),fun _=>⟨eC.1,(fun hf=>by cases hf),fun _=>⟨(fun hf=>by cases hf),fun _=>⟨fun z V'=>∃j:Nat,z=(j:Int)/\j<=A.length,fun z=>A.length-z.toNat,⟨0,by and_intros<;>rfl,0,rfl,Nat.zero_le _⟩,?_⟩⟩⟩⟩
  rintro z rF jo ⟨j,rfl,Cs⟩
  have wZ:=MX.trans jo
  have GA:=dk.trans (ee.trans jo)
  refine ⟨rfl,fun hlt=>?_,fun hlt We UX=>(mg (E.le (L8.trans (wZ.trans UX)))).mono ?_⟩
  ·have hlt:(j:Int)<A.length:=of_decide_eq_true hlt
   have hj:j<A.length:=by omega
   have w:i64.wrap ((j:Int)+1)=((j+1:Nat):Int):=by rw [ay (by omega)];rfl
   rw [Int.toNat_natCast,w]
   obtain ⟨ps,b1,p1,n1,c1,p2,n2,c2,b2,p3,n3,c3,p4,n4,c4,a,ha,a0,a1,a2,a3,a4,a5,g⟩:=ym eH.shape (hV.le GA fun _ _ g=>eH.le g GA) hj
   obtain ⟨k1,k2⟩:=MH _ (List.getElem_mem hj)
   obtain ⟨s1,s2⟩:=UO _ (List.getElem_mem hj)
   generalize A[j]=X at *
   refine ⟨ps,⟨by omega,by omega⟩,_,_,_,_,_,_,_,_,_,_,_,_,_,_,a,ha,a0,a1,a2,a3,a4,a5,fun zt gF=>(g_ (wq (JM.trans (wZ.trans gF))) hbd (Dm.of (eH.le g gF) s1 s2 (by omega)) (s1.mono (by omega)) (s2.mono (by omega)) (E.le (L8.trans (wZ.trans gF)))).mono ?_⟩
   rintro r Ia BM hK2
   obtain rfl:=hK2.some oC hcan
   rw [k1]
   have GC:=gF.trans BM
   refine ⟨_,_,rfl,fun H3 oH=>(Dw (hp0.le (wZ.trans (GC.trans oH))) z1 z2 (by omega)).mono ?_⟩
   rintro r Jt vd ga
   have On:=ga
   obtain ⟨p5,n5,c5,p6,n6,c6,p7,n7,c7,p8,n8,c8,rfl,T4,T5⟩:=ga
   have mJ:=GC.trans (oH.trans vd)
   refine ⟨_,_,_,_,_,_,_,_,_,_,_,_,_,_,rfl,fun J5 kD=>(Dw (k:=20000) (eH.le g (mJ.trans kD)) s1 s2 (by omega)).mono ?_⟩
   rintro r Ju DN gb
   obtain ⟨p9,n9,c9,Hb,n10,c10,Lx,n11,c11,U8,n12,c12,rfl,T6,T7⟩:=gb
   have Cv:=kD.trans DN
   refine ⟨_,_,_,_,_,_,_,_,_,_,_,_,_,_,rfl,fun LI zu=>(wH (k:=100000000) (T4.le (Cv.trans zu)) (T6.le zu) z1 (s1.mono (by omega)) (by omega)).mono ?_⟩
   rintro r J6 BN gm
   have Cw:=zu.trans BN
   obtain ⟨U9,n13,c13,WJ,n14,c14,rfl,Ub,Py⟩:=gm
   refine ⟨_,_,_,_,_,_,_,rfl,fun OU H7=>(wH (k:=100000000) (T5.le (Cv.trans (Cw.trans H7))) (T7.le (Cw.trans H7)) z2 (s2.mono (by omega)) (by omega)).mono ?_⟩
   rintro r S7 SG gn
   obtain ⟨U_,n15,c15,p16,n16,c16,rfl,Uc,Ud⟩:=gn
   have Qi:Sz 300000000 ((P.1+X.1)*((2:Int):Rat)⁻¹):=((z1.add s1).mul (dI km)).mono (by omega)
   have Qj:Sz 300000000 ((P.2+X.2)*((2:Int):Rat)⁻¹):=((z2.add s2).mul (dI km)).mono (by omega)
   have Cx:=H7.trans SG
   refine ⟨_,_,_,_,_,_,_,rfl,fun Ri ET=>(pT (x:=(P.1+X.1)*((2:Int):Rat)⁻¹) (y:=(P.2+X.2)*((2:Int):Rat)⁻¹) ⟨_,_,_,_,_,_,_,_,_,_,_,_,rfl,⟨_,_,_,_,_,_,rfl,Ub.le (Cx.trans ET),Py.le (Cx.trans ET)⟩,⟨_,_,_,_,_,_,rfl,Uc.le ET,Ud.le ET⟩⟩ Qi Qj (by omega)).mono ?_⟩
   rintro r Wa UW gp
   have Lo:=gp
   obtain ⟨_,_,_,_,_,_,_,_,_,_,_,_,_,_,rfl,-⟩:=gp
   have GD:=mJ.trans (Cv.trans (Cw.trans (Cx.trans (ET.trans UW))))
   refine ⟨_,_,_,_,_,_,_,_,_,_,_,_,_,_,rfl,fun Wb MR=>(g_ (x:=((P.1+X.1)*((2:Int):Rat)⁻¹,(P.2+X.2)*((2:Int):Rat)⁻¹)) (wq (JM.trans (wZ.trans (GD.trans MR)))) hbd (Dm.of (Lo.le MR) Qi Qj (by omega)) (Qi.mono (by omega)) (Qj.mono (by omega)) (E.le (L8.trans (wZ.trans (GD.trans MR))))).mono ?_⟩
   rintro r Wc MS hK3
   obtain rfl:=hK3.some oC hcan
   rw [k2]
   exact ⟨_,_,rfl,eC.1,(fun hf=>by cases hf),fun _=>⟨eC.1,(fun hf=>by cases hf),fun _=>⟨(fun hf=>by cases hf),fun _=>⟨(fun hf=>by cases hf),fun _=>⟨((j+1:Nat):Int),by (try dsimp only);omega,by and_intros<;>first|rfl|trivial,j+1,rfl,hj⟩⟩⟩⟩⟩
  ·rintro r Wf WB rfl
   exact ⟨_,rfl,fun Wg WC=>rfl⟩
end Go.Proofs.Tryz
