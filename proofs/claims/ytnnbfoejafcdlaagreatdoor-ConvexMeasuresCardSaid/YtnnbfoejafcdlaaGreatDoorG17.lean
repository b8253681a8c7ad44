import Derived.Test.YtnnbfoejafcdlaaGreatDoorG16
import Derived.Test.YtnnbfoejafcdlaaGreatDoorG8
import Derived.Test.YtnnbfoejafcdlaaGreatDoorG13
import Derived.Test.YtnnbfoejafcdlaaGreatDoorG14
import Derived.Test.YtnnbfoejafcdlaaGreatDoorG15
import Derived.Test.YtnnbfoejafcdlaaGreatDoorG12
import Derived.Test.YtnnbfoejafcdlaaGreatDoorG5
import Derived.Test.YtnnbfoejafcdlaaGreatDoorG7
import Derived.Test.YtnnbfoejafcdlaaGreatDoorG9
set_option linter.unusedVariables false
open Go.IntKind (i64 u64 u32)
namespace Go.Proofs.Tryz
open Go.bM Go.fR
def jS (V:View)(v:Value)(c:Rat×Rat):Prop:=RP V v c.1 c.2
theorem jS.le {V V':View}{v:Value}{c:Rat×Rat}(h:jS V v c)(l:V.Le V'):jS V' v c:=RP.le h l
theorem jS.shape {V:View}{v:Value}{c:Rat×Rat}(h:jS V v c):∃(b:Bool)(p:OA)(n c:Nat)(p':OA)(n' c':Nat)(d:Bool)(q:OA)(m e:Nat)(q':OA)(m' e':Nat),v=.agg #[.bool b,.slice p n c,.slice p' n' c',.bool d,.slice q m e,.slice q' m' e']:=by
 obtain ⟨p,n,c,p',n',c',q,m,e,q',m',e',h,-⟩:=h
 exact ⟨_,p,n,c,p',n',c',_,q,m,e,q',m',e',h⟩
theorem gE.shape {V:View}{v:Value}{c:Rat×Rat}(h:gE V v c):∃(b:Bool)(p:OA)(n c:Nat)(p':OA)(n' c':Nat)(d:Bool)(q:OA)(m e:Nat)(q':OA)(m' e':Nat),v=.agg #[.bool b,.slice p n c,.slice p' n' c',.bool d,.slice q m e,.slice q' m' e']:=by
 obtain ⟨_,_,_,_,_,_,_,_,_,_,_,_,_,_,h,-⟩:=h
 exact ⟨_,_,_,_,_,_,_,_,_,_,_,_,_,_,h⟩
theorem wG {R:View->Value->Rat×Rat->Prop}(sh:∀{V v c},R V v c->∃(b:Bool)(p:OA)(n c:Nat)(p':OA)(n' c':Nat)(d:Bool)(q:OA)(m e:Nat)(q':OA)(m' e':Nat),v=.agg #[.bool b,.slice p n c,.slice p' n' c',.bool d,.slice q m e,.slice q' m' e'])
  {V:View}{p:OA}{n:Nat}{al:List (Rat×Rat)}(h:cB 6 R V p n al){i:Nat}(hi:i<al.length) :
  p.isSome=true/\∃(b1:Bool)(p1:OA)(n1 c1:Nat)(p2:OA)(n2 c2:Nat)(b2:Bool)(p3:OA)(n3 c3:Nat)(p4:OA)(n4 c4:Nat)(a:Addr),ag p (i*6)=some a/\V.at (a.add 0) (.bool b1)/\V.at (a.add 1) (.slice p1 n1 c1)/\V.at (a.add 2) (.slice p2 n2 c2)/\V.at (a.add 3) (.bool b2)/\V.at (a.add 4) (.slice p3 n3 c3)/\V.at (a.add 5) (.slice p4 n4 c4) /\
   R V (.agg #[.bool b1,.slice p1 n1 c1,.slice p2 n2 c2,.bool b2,.slice p3 n3 c3,.slice p4 n4 c4]) al[i]:=by
 obtain ⟨l,j,xs,o,k,f⟩:=h.at_ i hi
 have g:=k
 obtain ⟨_,_,_,_,_,_,_,_,_,_,_,_,_,_,e⟩:=sh k
 have e:=congrArg Array.toList (Value.agg.inj e)
 dsimp only at e
 subst e
 refine ⟨?_,_,_,_,_,_,_,_,_,_,_,_,_,_,_,l,j,f 0 _ rfl,f 1 _ rfl,f 2 _ rfl,f 3 _ rfl,f 4 _ rfl,f 5 _ rfl,g⟩
 cases p with
 | none=>cases j
 | some a=>rfl
theorem GO {R:View->Value->Rat×Rat->Prop}(sh:∀{V v c},R V v c->∃(b:Bool)(p:OA)(n c:Nat)(p':OA)(n' c':Nat)(d:Bool)(q:OA)(m e:Nat)(q':OA)(m' e':Nat),v=.agg #[.bool b,.slice p n c,.slice p' n' c',.bool d,.slice q m e,.slice q' m' e'])
  {V:View}{vs:List Value}{al:List (Rat×Rat)}(h:Row 6 R V vs al){i:Nat}(hi:i<al.length) :
  ∃(b1:Bool)(p1:OA)(n1 c1:Nat)(p2:OA)(n2 c2:Nat)(b2:Bool)(p3:OA)(n3 c3:Nat)(p4:OA)(n4 c4:Nat),i*6+6<=vs.length/\(vs.drop (i*6)).take 6=[.bool b1,.slice p1 n1 c1,.slice p2 n2 c2,.bool b2,.slice p3 n3 c3,.slice p4 n4 c4] /\
   R V (.agg #[.bool b1,.slice p1 n1 c1,.slice p2 n2 c2,.bool b2,.slice p3 n3 c3,.slice p4 n4 c4]) al[i]:=by
 obtain ⟨xs,l,f,g⟩:=h.at_ i hi
 have o:=h.iM (by decide)
 have a:=f
 obtain ⟨_,_,_,_,_,_,_,_,_,_,_,_,_,_,e⟩:=sh f
 have e:=congrArg Array.toList (Value.agg.inj e)
 dsimp only at e
 subst e
 refine ⟨_,_,_,_,_,_,_,_,_,_,_,_,_,_,by omega,?_,a⟩
 apply List.ext_getElem?
 intro j
 rw [List.getElem?_take]
 split
 ·rename_i k
  rw [List.getElem?_drop]
  exact g j _ (List.getElem?_eq_getElem (by show j<6;omega))▸(List.getElem?_eq_getElem (by show j<6;omega)).symm
 ·rename_i k
  rw [List.getElem?_eq_none (by show 6<=j;omega)]
theorem qg {V:View}{p:OA}{n c:Nat}{A:List (Rat×Rat)}(h:cB 6 jS V p n A)(hn:A.length<=1000000){k:Nat}(hs:∀x∈A,Sz k x.1/\Sz k x.2)(hk:k<=1099511627776) :
  ab prog 29 #[.slice p n c] V fun r V'=>∃q m e,r=.slice q m e/\cB 6 gE V' q m A:=by
 obtain rfl:=h.len
 refine zU p _ c V _ ⟨fun z V'=>∃j:Nat,z.2.2.2=(j:Int)/\j<=A.length/\GR 6 gE V' z.1 z.2.1 z.2.2.1 (A.take j),fun z=>A.length-z.2.2.2.toNat,⟨(0,0,[],0),by and_intros<;>rfl,0,rfl,Nat.zero_le _,GR.nil⟩,?_⟩
 rintro ⟨u,P,Q,R⟩ S i ⟨j,l,T,d⟩
 dsimp only at l d
 subst l
 have v:=d.len
 rw [List.length_take] at v
 refine ⟨rfl,fun b=>?_,fun b U y W B=>?_⟩
 ·have b:(j:Int)<A.length:=of_decide_eq_true b
  have f:j<A.length:=by omega
  have w:i64.wrap ((j:Int)+1)=((j+1:Nat):Int):=by rw [ay (by omega)];rfl
  dsimp only
  rw [Int.toNat_natCast,w]
  obtain ⟨C,b1,X,Y,Z,p2,n2,c2,b2,p3,n3,c3,p4,n4,c4,a,D,E,F,G,H,I,J,g⟩:=wG jS.shape (h.le i fun _ _ g=>jS.le g i) f
  obtain ⟨s1,s2⟩:=hs _ (List.getElem_mem f)
  refine ⟨C,⟨by omega,by omega⟩,_,_,_,_,_,_,_,_,_,_,_,_,_,_,a,D,E,F,G,H,I,J,fun V2 o=>(DB (g.le o) s1 s2 hk).mono ?_⟩
  rintro r s K L
  have t:gE s r A[j]:=L
  obtain ⟨_,_,_,_,_,_,_,_,_,_,_,_,_,_,rfl⟩:=t.shape
  refine ⟨_,_,_,_,_,_,_,_,_,_,_,_,_,_,rfl,by omega,d.le,d.cap,rfl,OZ,fun sp M N O=>⟨(u+1,M,_,((j+1:Nat):Int)),by dsimp only;omega,by and_intros<;>rfl,j+1,rfl,f,?_⟩⟩
  dsimp only
  rw [List.take_add_one,List.getElem?_eq_getElem f]
  exact (d.mono (V':=s) fun _ _ g=>gE.le g (o.trans K)).snoc rfl t (by decide) N O
 ·have b:¬(j:Int)<A.length:=of_decide_eq_false b
  obtain rfl:j=A.length:=by omega
  rw [List.take_length] at d
  obtain rfl:=d.len
  exact ⟨_,_,_,rfl,cB.eZ B (d.row.le fun _ _ g=>gE.le g y) (by decide) d.le⟩
theorem ni {V:View}{p:OA}{n c:Nat}{q:OA}{m d:Nat}{A:List (Rat×Rat)}(hA:cB 6 gE V p n A)(hB:cB 6 gE V q m A)(hn:A.length<=1000000){k:Nat}(hs:∀x∈A,Sz k x.1/\Sz k x.2)(hk:k<=1099511627776) :
  ab prog 28 #[.slice p n c,.slice q m d] V fun r V'=>r=.bool true:=by
 obtain rfl:=hA.len
 obtain rfl:=hB.len
 refine uz p _ c q _ d V _ ⟨fun h=>by simp at h,fun _=>⟨fun z V'=>∃j:Nat,z=(j:Int)/\j<=A.length,fun z=>A.length-z.toNat,⟨0,by and_intros<;>rfl,0,rfl,Nat.zero_le _⟩,?_⟩⟩
 rintro z V2 e ⟨j,rfl,W⟩
 refine ⟨rfl,fun b=>?_,fun b X Y=>rfl⟩
 have b:(j:Int)<A.length:=of_decide_eq_true b
 have f:j<A.length:=by omega
 have w:i64.wrap ((j:Int)+1)=((j+1:Nat):Int):=by rw [ay (by omega)];rfl
 rw [Int.toNat_natCast,w]
 obtain ⟨y,b1,Z,n1,c1,p2,n2,c2,b2,p3,n3,c3,p4,n4,c4,a,B,C,D,E,F,G,H,g⟩:=wG gE.shape (hA.le e fun _ _ g=>gE.le g e) f
 obtain ⟨i,I,Tp,J,K,Xq,Xj,L,M,Xr,Xk,N,O,P,Q,R,l,o,s,S,t,u,T,U⟩:=wG gE.shape (hB.le e fun _ _ g=>gE.le g e) f
 obtain ⟨s1,s2⟩:=hs _ (List.getElem_mem f)
 refine ⟨y,⟨by omega,by omega⟩,_,_,_,_,_,_,_,_,_,_,_,_,_,_,a,B,C,D,E,F,G,H,i,⟨by omega,by omega⟩,_,_,_,_,_,_,_,_,_,_,_,_,_,_,R,l,o,s,S,t,u,T,fun V3 v=>(yO (gE.le g v) (gE.le U v) s1 s2 hk).mono ?_⟩
 rintro r V4 l4 rfl
 rw [decide_eq_true ⟨rfl,rfl⟩]
 exact ⟨_,rfl,(fun h=>nomatch h),fun _=>⟨((j+1:Nat):Int),by dsimp only;omega,by and_intros<;>rfl,j+1,rfl,f⟩⟩
theorem cB.q {V:View}{p:OA}{n:Nat}{ls:List L3}(h:cB 6 ck V p n ls):cB 6 rH V p n ls:=⟨h.len,fun i a=>by
 obtain ⟨b,c,xs,d,e,f⟩:=h.at_ i a
 exact ⟨b,c,xs,d,.inl e,f⟩⟩
theorem oQ {V:View}{p:OA}{n c:Nat}{ls:List L3}(h:cB 6 ck V p n ls)(hn:ls.length<=1000000)(hs:∀l∈ls,Bd l) :
  ab prog 19 #[.slice p n c] V fun r V'=>∃q m e,r=.agg #[.slice q m e]/\cB 6 ck V' q m ls:=by
 refine yk p n c V _ fun d a=>(BL (h.le a fun _ _ g=>ck.le g a) hn hs).mono ?_
 rintro r V2 f ⟨q,m,e,rfl,g⟩
 exact ⟨_,_,_,rfl,fun i b=>⟨_,_,_,rfl,g.le b fun _ _ g=>ck.le g b⟩⟩
theorem BO {V:View}{p:OA}{n c:Nat}{q:OA}{m d:Nat}{A:List L3}(hA:cB 6 ck V p n A)(hB:cB 6 ck V q m A)(hn:A.length<=1000000)(hs:∀l∈A,Bd l) :
  ab prog 46 #[.agg #[.slice p n c],.agg #[.slice q m d]] V fun r V'=>r=.bool true:=by
 refine zZ p n c q m d V _ fun b a=>(vI (hA.le a fun _ _ g=>ck.le g a) (hB.le a fun _ _ g=>ck.le g a) hn hs).mono ?_
 rintro r V2 e rfl
 exact ⟨_,rfl,fun f h=>rfl⟩
def Fu:List L3:=[(0,1,0),(-1,0,1),(0,-1,1),(1,0,0)]
def rI:List (Rat×Rat):=[(((0:Int):Rat),((0:Int):Rat)),(((1:Int):Rat),((0:Int):Rat)),(((1:Int):Rat),((1:Int):Rat)),(((0:Int):Rat),((1:Int):Rat))]
def UD:List (Rat×Rat):=[(((1:Int):Rat),((0:Int):Rat)),(((1:Int):Rat),((1:Int):Rat)),(((0:Int):Rat),((1:Int):Rat)),(((0:Int):Rat),((0:Int):Rat))]
theorem QG:∀i:Fin 4,¬((rI.getD i (0,0)).1=(rI.getD ((i+1)%4) (0,0)).1/\(rI.getD i (0,0)).2=(rI.getD ((i+1)%4) (0,0)).2)/\GU (rI.getD i (0,0)).1 (rI.getD i (0,0)).2 (rI.getD ((i+1)%4) (0,0)).1 (rI.getD ((i+1)%4) (0,0)).2=Fu.getD i (0,0,0):=by decide +kernel
theorem QF:(bK Fu [] []).map (fun c=>(c.map Prod.fst,oG c))=some (Fu,true):=by decide +kernel
theorem QH:kM Fu=UD:=by decide +kernel
theorem N_:tw (kM Fu)*((2:Int):Rat)⁻¹=((1:Int):Rat):=by decide +kernel
theorem LV:A7 Fu=true:=by decide
theorem Gv {z:Int}(k:Nat)(hk:k≠0)(h:z.natAbs<=1):z.natAbs<2^k:=Nat.lt_of_le_of_lt h (Nat.one_lt_two_pow hk)
theorem NB {l:L3}(k:Nat)(hk:k≠0)(h:l.1.natAbs<=1/\l.2.1.natAbs<=1/\l.2.2.natAbs<=1):l.1.natAbs<2^k/\l.2.1.natAbs<2^k/\l.2.2.natAbs<2^k:=⟨Gv k hk h.1,Gv k hk h.2.1,Gv k hk h.2.2⟩
theorem LW:∀l∈Fu,l.1.natAbs<=1/\l.2.1.natAbs<=1/\l.2.2.natAbs<=1:=by decide
theorem EO:∀l∈Fu,Bd l:=fun l a=>NB 1000 (by decide) (LW l a)
theorem GQ:∀x∈rI,Sz 2 x.1/\Sz 2 x.2:=by
 have a:Sz 2 ((0:Int):Rat):=⟨by show (0:Int).natAbs<_;decide,by show (1:Nat)<_;decide⟩
 intro x b
 simp only [rI,List.mem_cons,List.not_mem_nil,or_false] at b
 rcases b with rfl|rfl|rfl|rfl<;>exact ⟨by first|exact a|exact fO,by first|exact a|exact fO⟩
theorem LX:∀x∈UD,Sz 2 x.1/\Sz 2 x.2:=fun x a=>GQ x (by
 simp only [UD,List.mem_cons,List.not_mem_nil,or_false] at a
 simp only [rI,List.mem_cons,List.not_mem_nil,or_false]
 rcases a with rfl|rfl|rfl|rfl
 ·exact .inr (.inl rfl)
 ·exact .inr (.inr (.inl rfl))
 ·exact .inr (.inr (.inr rfl))
 ·exact .inl rfl)
theorem EK {R:View->Value->Rat×Rat->Prop}{V:View}{a b c d:List Value}{p q r s:Rat×Rat}(la:a.length=6)(lb:b.length=6)(lc:c.length=6)(ld:d.length=6)(ha:R V (.agg a.toArray) p)(hb:R V (.agg b.toArray) q)(hc:R V (.agg c.toArray) r)(hd:R V (.agg d.toArray) s) :
  Row 6 R V (a++(b++(c++d))) [p,q,r,s]:=by
 have g:=jK (sp:=[]) (row_one lc hc) (row_one ld hd) (by decide)
 have i:=jK (sp:=[]) (row_one lb hb) g (by decide)
 have f:=jK (sp:=[]) (row_one la ha) i (by decide)
 have e:∀{x:List Value},x.length=6->x.take (1*6)=x:=fun h=>List.take_of_length_le (by omega)
 simp only [List.length_singleton,List.length_cons,List.length_nil,Nat.zero_add,e la,e lb,e lc,List.append_nil,List.cons_append,List.nil_append] at f
 exact f
theorem vG {V:View}:ab prog 38 #[] V fun r V'=>∃(bk n c:Nat)(vs:List Value),r=.slice (mA bk c) n c/\(vs≠[]->V'.w.heap[bk]?=some (.cells vs.toArray 27 (0,0)))/\(vs≠[]->V.w.heap.size<=bk)/\GR 6 ck (V'.ke (vs≠[]) bk) n c vs Fu:=by
 have u:∀{W:View} (x y:Int),x.natAbs<=1->y.natAbs<=1->ab prog 12 #[.int .i64 x,.int .i64 y] W fun r V'=>RP V' r (x:Rat) (y:Rat):=fun x y h h'=>mc x y (by omega) (by omega) (by omega) (by omega)
 refine uw V _ fun V1 l1=>(u 0 0 (by decide) (by decide)).mono ?_
 rintro r V2 l2 N
 have q:jS V2 r (((0:Int):Rat),((0:Int):Rat)):=N
 obtain ⟨_,_,_,_,_,_,_,_,_,_,_,_,_,_,rfl⟩:=q.shape
 refine ⟨_,_,_,_,_,_,_,_,_,_,_,_,_,_,rfl,fun V3 O=>(u 1 0 (by decide) (by decide)).mono ?_⟩
 rintro r P Q R
 have s:jS P r (((1:Int):Rat),((0:Int):Rat)):=R
 obtain ⟨_,_,_,_,_,_,_,_,_,_,_,_,_,_,rfl⟩:=s.shape
 refine ⟨_,_,_,_,_,_,_,_,_,_,_,_,_,_,rfl,fun V5 S=>(u 1 1 (by decide) (by decide)).mono ?_⟩
 rintro r T U X
 have D:jS T r (((1:Int):Rat),((1:Int):Rat)):=X
 obtain ⟨_,_,_,_,_,_,_,_,_,_,_,_,_,_,rfl⟩:=D.shape
 refine ⟨_,_,_,_,_,_,_,_,_,_,_,_,_,_,rfl,fun V7 Y=>(u 0 1 (by decide) (by decide)).mono ?_⟩
 rintro r E Z g4
 have F:jS E r (((0:Int):Rat),((1:Int):Rat)):=g4
 obtain ⟨_,_,_,_,_,_,_,_,_,_,_,_,_,_,rfl⟩:=F.shape
 have G:=Y.trans Z
 have H:=S.trans (U.trans G)
 have t:Row 6 jS E _ rI:=EK (a:=[_,_,_,_,_,_]) (b:=[_,_,_,_,_,_]) (c:=[_,_,_,_,_,_]) (d:=[_,_,_,_,_,_]) rfl rfl rfl rfl (q.le (O.trans (Q.trans H))) (s.le H) (D.le G) F
 refine ⟨_,_,_,_,_,_,_,_,_,_,_,_,_,_,rfl,fun z V'=>∃j:Nat,z.2.2.2.1=(j:Int)/\j<=4/\Row 6 jS V' z.2.2.2.2 rI/\GR 6 ck V' z.1 z.2.1 z.2.2.1 (Fu.take j),fun z=>4-z.2.2.2.1.toNat,⟨(0,0,[],0,_),by and_intros<;>rfl,0,rfl,by omega,t,GR.nil⟩,?_⟩
 rintro ⟨I,z2,vs,z4,ps⟩ V9 l9 ⟨j,J,AU,k,p⟩
 dsimp only at J p k
 subst J
 have zl:=p.len
 rw [List.length_take] at zl
 have a0:Fu.length=4:=rfl
 have a1:rI.length=4:=rfl
 refine ⟨rfl,fun e=>?_,fun e lL bk bY hb v=>?_⟩
 ·have e:(j:Int)<4:=of_decide_eq_true e
  have hi:j<4:=by omega
  have w:i64.wrap ((j:Int)+1)=((j+1:Nat):Int):=by rw [ay (by omega)];rfl
  have hm:(((j+1:Nat):Int)).tmod (4:Int)=(((j+1)%4:Nat):Int):=by
   have:=Int.ofNat_tmod (j+1) 4
   exact this.symm
  dsimp only
  rw [w,hm]
  simp only [Int.toNat_natCast,Nat.zero_add]
  obtain ⟨b1,p1,n1,c1,p2,n2,c2,b2,p3,n3,c3,p4,n4,c4,lp,ep,gp⟩:=GO jS.shape k (i:=j) (by omega)
  obtain ⟨a2,Tp,a3,a4,Xq,Xj,a5,a6,Xr,Xk,a7,a8,a9,b0,A,Ul,B⟩:=GO jS.shape k (i:=(j+1)%4) (by omega)
  obtain ⟨m,f⟩:=QG ⟨j,hi⟩
  have ej:rI.getD j (0,0)=rI[j]:=dP (by omega)
  have C:rI.getD ((j+1)%4) (0,0)=rI[(j+1)%4]:=dP (by omega)
  have el:Fu.getD j (0,0,0)=Fu[j]:=dP (by omega)
  have m:¬((rI.getD j (0,0)).1=(rI.getD ((j+1)%4) (0,0)).1/\(rI.getD j (0,0)).2=(rI.getD ((j+1)%4) (0,0)).2):=m
  have f:GU (rI.getD j (0,0)).1 (rI.getD j (0,0)).2 (rI.getD ((j+1)%4) (0,0)).1 (rI.getD ((j+1)%4) (0,0)).2=Fu.getD j (0,0,0):=f
  rw [ej,C] at m f
  rw [el] at f
  obtain ⟨s1,s2⟩:=GQ _ (List.getElem_mem (show j<rI.length by omega))
  obtain ⟨s3,s4⟩:=GQ _ (List.getElem_mem (show (j+1)%4<rI.length by omega))
  refine ⟨⟨by omega,by omega⟩,_,_,_,_,_,_,_,_,_,_,_,_,_,_,⟨lp,ep⟩,by decide,⟨by omega,by omega⟩,_,_,_,_,_,_,_,_,_,_,_,_,_,_,⟨A,Ul⟩,fun iI o=>(Jh (jS.le gp o) (jS.le B o) s1 s2 s3 s4 (by omega) (by omega)).mono ?_⟩
  rintro r K L ⟨-,hr⟩
  obtain ⟨l,rfl,gl⟩:=hr m
  have M:ck K l Fu[j]:=by rw [←f];exact gl
  obtain ⟨_,_,_,_,_,_,_,_,_,_,_,_,rfl⟩:=cI M
  refine ⟨_,_,_,_,_,_,_,_,_,_,_,_,_,rfl,by omega,p.le,p.cap,rfl,Lm,fun sp c' h1 h2=>⟨(I+1,c',_,((j+1:Nat):Int),ps),by dsimp only;omega,by and_intros<;>first|rfl|trivial,j+1,rfl,by omega,k.le fun _ _ g=>jS.le g (o.trans L),?_⟩⟩
  dsimp only
  rw [List.take_add_one,List.getElem?_eq_getElem (by omega)]
  exact (p.mono (V':=K) fun _ _ g=>ck.le g (o.trans L)).snoc rfl M (by decide) h1 h2
 ·have e:¬(j:Int)<4:=of_decide_eq_false e
  obtain rfl:j=4:=by omega
  exact ⟨bk,I,z2,vs,rfl,hb,fun h=>(v h).elim id False.elim,p.mono fun _ _ g=>ck.le g bY⟩
set_option maxHeartbeats 1000000 in
theorem ky {V:View}{yi ye yu:Value}(E:Er V yi ye yu):ab prog 14 #[] V fun r V'=>r=.bool true:=by
 have z:∀{W:View} (x y:Int),x.natAbs<=1->y.natAbs<=1->ab prog 12 #[.int .i64 x,.int .i64 y] W fun r V'=>RP V' r (x:Rat) (y:Rat):=fun x y h h'=>mc x y (by omega) (by omega) (by omega) (by omega)
 obtain ⟨cs,i,p⟩:=Option.map_eq_some_iff.1 QF
 obtain ⟨p,e2⟩:=Prod.mk.inj p
 refine xP V _ fun V1 l1=>vG.mono ?_
 rintro r V2 l2 ⟨bm,n,c,vm,rfl,f1,f2,A⟩
 refine ⟨bm,vm,f1,fun h=>.inl (f2 h),none,n,c,rfl,fun X Y Z L=>?_⟩
 have B:V1.Le X:=(wC l2 fun h=>.inl (f2 h)).trans Y
 have hL:cB 6 ck X (mA Z c) n Fu:=by
  rw [A.len]
  exact cB.eZ L (A.row.le fun _ _ g=>ck.le g fun b o h=>Y b o h) (by decide) (by have:=A.le;have:=A.len;omega)
 refine (oQ hL (by decide) EO).mono ?_
 rintro r V4 l4 ⟨q,m,e,rfl,C⟩
 have M:=l1.trans (B.trans l4)
 refine ⟨_,_,_,rfl,fun J V5 D=>(kx (cB.q (C.le D fun _ _ g=>ck.le g D)) EO (E.le (M.trans D))).mono ?_⟩
 rintro r V6 l6 N
 obtain ⟨-,N⟩:=N.some LV i
 obtain ⟨wa,rfl,O,sA⟩:=N e2
 rw [p,N_] at O
 have VJ:=O
 obtain ⟨_,_,_,_,_,_,_,rfl⟩:=O.shape
 have f:=D.trans l6
 refine ⟨_,_,_,_,_,_,_,_,rfl,fun V7 s=>(vC (cB.q (C.le (f.trans s) fun _ _ g=>ck.le g (f.trans s))) EO (E.le (M.trans (f.trans s)))).mono ?_⟩
 rintro r V8 l8 t
 obtain ⟨q1,m1,d1,rfl,hC,-⟩:=t.some LV i
 clear t
 rw [p] at hC
 have F:=f.trans (s.trans l8)
 refine ⟨_,_,_,_,rfl,fun V9 G=>(j7 (cB.q (C.le (F.trans G) fun _ _ g=>ck.le g (F.trans G))) EO (E.le (M.trans (F.trans G)))).mono ?_⟩
 rintro r iI P Sf
 obtain ⟨q2,m2,d2,rfl,hV,-⟩:=Sf.some LV i
 clear Sf
 rw [p,QH] at hV
 have H:=G.trans P
 have SU:=F.trans H
 refine ⟨_,_,_,_,rfl,fL.1,fun _=>⟨fL.1,fun _=>⟨fL.1,fun _ ie j=>?_,fun h=>by cases h⟩,fun h=>by cases h⟩,fun h=>by cases h⟩
 refine (BO (C.le (SU.trans j) fun _ _ g=>ck.le g (SU.trans j)) (hC.le (H.trans j) fun _ _ g=>ck.le g (H.trans j)) (by decide) EO).mono ?_
 rintro r lL Q rfl
 have qD:=s.trans (l8.trans (H.trans (j.trans Q)))
 refine ⟨_,rfl,fun _ o_ B=>(BE (VJ.le (qD.trans B)) (k:=2) fO (by omega)).mono ?_,fun h=>by cases h⟩
 rintro r mJ c_ gq
 have PJ:=gq
 obtain ⟨_,_,_,_,_,_,rfl⟩:=gq.shape
 refine ⟨_,_,_,_,_,_,_,rfl,fun lN dp=>(eI 1 (by omega) (by omega)).mono ?_⟩
 rintro r kr cV g1
 have R:=g1
 obtain ⟨_,_,_,_,_,_,rfl⟩:=g1.shape
 refine ⟨_,_,_,_,_,_,_,rfl,fun mZ S=>(lX (PJ.le (dp.trans (cV.trans S))) (R.le S) fO fO (by omega)).mono ?_⟩
 rintro r pe dF rfl
 have KG:=B.trans (c_.trans (dp.trans (cV.trans (S.trans dF))))
 refine ⟨_,rfl,fun _ tj dq=>(z 1 0 (by decide) (by decide)).mono ?_,fun h=>by
  rw [show fA ((1:Int):Rat) ((1:Int):Rat)=0 from iV.1 rfl] at h;cases h⟩
 rintro r yF gy h1
 have u:jS yF r (((1:Int):Rat),((0:Int):Rat)):=h1
 obtain ⟨_,_,_,_,_,_,_,_,_,_,_,_,_,_,rfl⟩:=u.shape
 refine ⟨_,_,_,_,_,_,_,_,_,_,_,_,_,_,rfl,fun uJ T=>(z 1 1 (by decide) (by decide)).mono ?_⟩
 rintro r tm U h2
 have v:jS tm r (((1:Int):Rat),((1:Int):Rat)):=h2
 obtain ⟨_,_,_,_,_,_,_,_,_,_,_,_,_,_,rfl⟩:=v.shape
 refine ⟨_,_,_,_,_,_,_,_,_,_,_,_,_,_,rfl,fun yx gT=>(z 0 1 (by decide) (by decide)).mono ?_⟩
 rintro r Ik nE h3
 have ZA:jS Ik r (((0:Int):Rat),((1:Int):Rat)):=h3
 obtain ⟨_,_,_,_,_,_,_,_,_,_,_,_,_,_,rfl⟩:=ZA.shape
 refine ⟨_,_,_,_,_,_,_,_,_,_,_,_,_,_,rfl,fun Hq mO=>(z 0 0 (by decide) (by decide)).mono ?_⟩
 rintro r JB mo h4
 have Up:jS JB r (((0:Int):Rat),((0:Int):Rat)):=h4
 obtain ⟨_,_,_,_,_,_,_,_,_,_,_,_,_,_,rfl⟩:=Up.shape
 have KO:=mO.trans mo
 have I:=gT.trans (nE.trans KO)
 refine ⟨_,_,_,_,_,_,_,_,_,_,_,_,_,_,rfl,fun MI l Z hb=>?_⟩
 have w:Row 6 jS MI _ UD:=EK (a:=[_,_,_,_,_,_]) (b:=[_,_,_,_,_,_]) (c:=[_,_,_,_,_,_]) (d:=[_,_,_,_,_,_]) rfl rfl rfl rfl (u.le (T.trans (U.trans (I.trans l)))) (v.le (I.trans l)) (ZA.le (KO.trans l)) (Up.le l)
 refine (qg (cB.Lj hb w) (by decide) LX (by omega)).mono ?_
 rintro r MJ uQ ⟨q3,m3,d3,rfl,hP⟩
 refine ⟨_,_,_,rfl,fun _ Q2 K=>(ni (hV.le (j.trans (Q.trans (KG.trans (dq.trans (gy.trans (T.trans (U.trans (I.trans (l.trans (uQ.trans K)))))))))) fun _ _ g=>gE.le g (j.trans (Q.trans (KG.trans (dq.trans (gy.trans (T.trans (U.trans (I.trans (l.trans (uQ.trans K)))))))))) ) (hP.le K fun _ _ g=>gE.le g K) (by decide) LX (by omega)).mono ?_⟩
 rintro r Mv AX rfl
 exact ⟨_,rfl,fun Rn D8=>rfl⟩
theorem Vl {V:View}{tb:Nat}{p:OA}{n c:Nat}{at_:Int}(hr:JA V p n)(hn:n<=400)(hw:pW V tb p n c at_)(hx:V.X tb)(h0:0<=at_) :
  ab prog 72 #[.pointer (some ⟨tb,0,none⟩),.int .i64 7] V fun r V'=>∃(at':Int)(ls:List L3)(bk n' c':Nat)(vs:List Value),0<=at'/\pW V' tb p n c at'/\r=.slice (mA bk c') n' c' /\
   (vs≠[]->V'.w.heap[bk]?=some (.cells vs.toArray 27 (0,0)))/\(vs≠[]->V.w.heap.size<=bk)/\GR 6 ck (V'.ke (vs≠[]) bk) n' c' vs ls/\ls.length<=7/\∀l∈ls,dH l=true/\Bd l:=by
 have Q:i64.wrap ((7:Int)+1)=8:=ay (by omega)
 refine tg tb p n c at_ 7 V _ hw hx fun F G s R S=>?_
 rw [Q]
 refine (rP (V:=F.bz [s]) 8 (hr.le fun b o h=>G b o h) hn R ⟨by simp,S⟩ h0 (by omega) (by omega)).mono ?_
 rintro r V2 T ⟨x,H,rfl,U,x1,t1,t⟩
 refine ⟨_,rfl,p,n,c,H,t,fun z V'=>∃(ls:List L3),z.2.2.2.2.1=p/\z.2.2.2.2.2.1=n/\z.2.2.2.2.2.2.1=c/\0<=z.2.2.2.2.2.2.2/\0<=z.2.2.2.1/\(ls.length:Int)+z.2.2.2.1<=7/\GR 6 ck V' z.1 z.2.1 z.2.2.1 ls/\(∀l∈ls,dH l=true/\Bd l),fun z=>z.2.2.2.1.toNat,
  ⟨(0,0,[],x,p,n,c,H),by and_intros<;>rfl,[],rfl,rfl,rfl,t1,U,by simp;omega,GR.nil,fun l u=>by cases u⟩,?_⟩
 rintro ⟨I,W,vs,i,J,K,L,Y⟩ M Z ⟨ls,N,q,O,v,A,B,d,e⟩
 dsimp only at N q O v A B d
 subst N q O
 have gT:F.Le M:=fun b o h=>Z b o (T b o h)
 refine ⟨rfl,fun a V4 P C e9 h9=>?_,fun a V6 bk D q f1 f2=>?_⟩
 ·have a:i>0:=of_decide_eq_true a
  have w:i64.wrap (i-1)=i-1:=ay (by omega)
  refine (c_L (V:=V4.bz [C]) (hr.le fun b o h=>P b o (gT b o (G b o h))) hn e9 ⟨by simp,h9⟩ v).mono ?_
  rintro r f l5 ⟨l,j,u,ok,bd,t2,E⟩
  have k:ck f r l:=u
  obtain ⟨_,_,_,_,_,_,_,_,_,_,_,_,rfl⟩:=cI k
  have zl:=d.len
  rw [w]
  refine ⟨_,_,_,_,_,_,_,_,_,_,_,_,rfl,J,K,L,j,E,by omega,d.le,d.cap,rfl,Lm,fun sp c' k1 k2=>⟨(I+1,c',_,i-1,J,K,L,j),by dsimp only;omega,by and_intros<;>rfl,ls++[l],rfl,rfl,rfl,t2,by dsimp only;omega,?_,?_,?_⟩⟩
  ·dsimp only
   rw [List.length_append,List.length_singleton]
   omega
  ·exact (d.mono (V':=f.shut) fun _ _ g=>ck.le (V:=M) (V':=f.shut) g fun b o h=>l5 b o (P b o h)).snoc rfl (ck.le (V:=f) (V':=f.shut) k fun b o h=>h) (by decide) k1 k2
  ·intro y m
   rcases List.mem_append.1 m with m|m
   ·exact e y m
   ·rw [List.mem_singleton.1 m];exact ⟨ok,bd⟩
 ·have a:¬i>0:=of_decide_eq_false a
  exact ⟨Y,ls,bk,I,W,vs,v,q,rfl,f1,fun h=>(f2 h).elim id False.elim,d.mono fun _ _ g=>ck.le g D,by omega,e⟩
theorem HF:Sz 10 (mkRat 1 7)/\Sz 10 (mkRat 1 5):=by unfold Sz;decide +kernel
set_option maxHeartbeats 1000000 in
theorem Px {V:View}{tb:Nat}{p:OA}{n c:Nat}{at_:Int}(hr:JA V p n)(hn:n<=400)(hw:pW V tb p n c at_)(hx:V.X tb)(h0:0<=at_) :
  ab prog 20 #[.pointer (some ⟨tb,0,none⟩)] V fun r V'=>∃(at':Int)(ls:List L3)(q:OA)(m e:Nat),0<=at'/\pW V' tb p n c at'/\r=.slice q m e/\cB 6 ck V' q m ls/\ls.length<=7/\∀l∈ls,dH l=true/\Bd l:=by
 refine zJ tb p n c at_ V _ hw hx fun P l1 A e1 h1=>(Vl (V:=P.bz [A]) (hr.le fun b o h=>l1 b o h) hn e1 ⟨by simp,h1⟩ h0).mono ?_
 rintro r V2 l2 ⟨JP,ls,bm,i,v,vm,t1,R,rfl,f1,f2,Q,hlen,B⟩
 have C:vm≠[]->P.w.heap.size<=bm:=f2
 have zl:=Q.len
 have Rj:=Q.le
 have a6:=Q.cap
 refine ⟨bm,vm,f1,fun h=>.inl (C h),none,i,v,rfl,p,n,c,JP,R,fun D l3 S e3 h3=>?_⟩
 have cg:P.Le D:=fun b o E=>l3 b o (wC (V:=P.bz [A]) l2 (fun h=>.inl (C h)) b o E)
 have F:GR 6 ck D i v vm ls:=Q.mono fun _ _ g=>ck.le g fun b o h=>l3 b o h
 have AW:=l1.trans cg
 refine (rP (V:=D.bz [S]) 3 (hr.le fun b o h=>AW b o h) hn e3 ⟨by simp,h3⟩ t1 (by omega) (by omega)).mono ?_
 rintro r V4 l4 ⟨x,G,rfl,x0,x1,t2,T⟩
 refine ⟨_,rfl,p,n,c,G,T,fun hz V5 l5 Vf e5 E=>?_,fun hz U l6 Vg e6 h6=>?_⟩
 ·have HO:D.Le V5:=fun b o h=>l5 b o (l4 b o h)
  refine ⟨G,ls,mA Vf v,i,v,t2,e5,rfl,?_,hlen,B⟩
  rw [zl]
  exact cB.eZ E (F.row.le fun _ _ g=>ck.le g HO) (by decide) (by omega)
 have Qh:D.Le U:=fun b o h=>l6 b o (l4 b o h)
 have OO:=AW.trans Qh
 refine (Y4 (V:=U.bz [Vg]) (hr.le fun b o h=>OO b o h) hn e6 ⟨by simp,h6⟩ t2).mono ?_
 rintro r V7 l7 ⟨q1,W,g7,s7,t3,Y⟩
 have HH:=g7
 obtain ⟨_,_,_,_,_,_,rfl⟩:=g7.shape
 refine ⟨_,_,_,_,_,_,_,rfl,p,n,c,W,Y,fun V8 l8=>(ma 1 7 (by omega) (by omega) (by omega) (by omega)).mono ?_⟩
 rintro r V9 l9 g9
 have R_:=g9
 obtain ⟨_,_,_,_,_,_,rfl⟩:=g9.shape
 have SY:V7.Le V9:=fun b o h=>l9 b o (l8 b o h)
 have Xc:U.Le V9:=fun b o h=>SY b o (l7 b o h)
 refine ⟨_,_,_,_,_,_,_,rfl,fun iI s=>(cw (HH.le (SY.trans s)) (R_.le s) s7 HF.1 (by omega)).mono ?_⟩
 rintro r ie bA H
 have Vs:=H
 obtain ⟨_,_,_,_,_,_,rfl⟩:=H.shape
 have uc:Sz 40 (q1+mkRat 1 7):=(s7.add HF.1).mono (by omega)
 have OT:=Xc.trans (s.trans bA)
 refine ⟨_,_,_,_,_,_,_,rfl,fun lL bY Vi Z a0=>(Y4 (V:=lL.bz [Vi]) (hr.le fun b o h=>bY b o (OT b o (OO b o h))) hn Z ⟨by simp,a0⟩ t3).mono ?_⟩
 rintro r o_ W4 ⟨q2,I,J,K,t4,a1⟩
 have Vu:=J
 obtain ⟨_,_,_,_,_,_,rfl⟩:=J.shape
 have Qd:ie.Le o_:=fun b o h=>W4 b o (bY b o h)
 refine ⟨_,_,_,_,_,_,_,rfl,p,n,c,I,a1,fun mJ c_=>(ma 1 5 (by omega) (by omega) (by omega) (by omega)).mono ?_⟩
 rintro r lN dp M
 have Vv:=M
 obtain ⟨_,_,_,_,_,_,rfl⟩:=M.shape
 have KH:o_.Le lN:=fun b o h=>dp b o (c_ b o h)
 refine ⟨_,_,_,_,_,_,_,rfl,fun kr cV=>(cw (Vu.le (KH.trans cV)) (Vv.le cV) K HF.2 (by omega)).mono ?_⟩
 rintro r mZ cQ N
 have Vw:=N
 obtain ⟨_,_,_,_,_,_,rfl⟩:=N.shape
 have a2:Sz 40 (q2+mkRat 1 5):=(K.add HF.2).mono (by omega)
 have KF:=Qd.trans (KH.trans (cV.trans cQ))
 have SS:=Qh.trans (OT.trans KF)
 refine ⟨_,_,_,_,_,_,_,rfl,fun z V'=>∃(j:Nat)(ms:List L3),z.1=(j:Int)/\j<=i/\ms.length=ls.length/\Row 6 ck V' z.2 ms/\z.2.length=vm.length/\∀l∈ms,dH l=true/\Bd l,fun z=>i-z.1.toNat,⟨(0,vm),by and_intros<;>rfl,0,ls,rfl,Nat.zero_le _,rfl,F.row.le fun _ _ g=>ck.le g SS,rfl,B⟩,?_⟩
 rintro ⟨z1,vs⟩ pe dF ⟨j,ms,Q6,AU,O,d,t,f⟩
 dsimp only at Q6 d t
 subst Q6
 refine ⟨rfl,fun u=>?_,fun u yx gT bk a3 E=>?_⟩
 ·have u:(j:Int)<i:=of_decide_eq_true u
  have hj:j<ms.length:=by omega
  have w:i64.wrap ((j:Int)+1)=((j+1:Nat):Int):=by rw [ay (by omega)];rfl
  dsimp only
  rw [Int.toNat_natCast,w]
  obtain ⟨b1,p1,a4,a5,b2,p2,n2,c2,b3,p3,n3,c3,fh,Kh,hl⟩:=GP d hj
  obtain ⟨ok,bd⟩:=f _ (List.getElem_mem hj)
  have hp:RP pe _ (q1+mkRat 1 7) (q2+mkRat 1 5):=⟨_,_,_,_,_,_,_,_,_,_,_,_,rfl,Vs.le (KF.trans dF),Vw.le dF⟩
  refine ⟨⟨by omega,by omega⟩,Rj,b1,p1,a4,a5,b2,p2,n2,c2,b3,p3,n3,c3,⟨fh,Kh⟩,fun tj dq=>(Cs (L:=ms[j]) (hl.le dq) (hp.le dq) (k:=1000) bd.fa (uc.mono (by omega)) (a2.mono (by omega)) (by omega)).mono ?_⟩
  rintro r yF gy rfl
  have Gk:=dq.trans gy
  refine ⟨_,rfl,fun hc uJ fB=>(Dy (a:=ms[j].1) (b:=ms[j].2.1) (c:=ms[j].2.2) (hl.le (Gk.trans fB))).mono ?_,fun hc=>⟨(((j+1:Nat):Int),vs),by dsimp only;omega,by and_intros<;>rfl,j+1,ms,rfl,by omega,O,d.le fun _ _ g=>ck.le g Gk,t,f⟩⟩
  rintro r tm iF gr
  have Uo:ck tm r (jJ ms[j]):=gr
  obtain ⟨_,_,_,_,_,_,_,_,_,_,_,_,rfl⟩:=cI Uo
  have Qg:=Gk.trans (fB.trans iF)
  refine ⟨_,_,_,_,_,_,_,_,_,_,_,_,rfl,⟨by omega,by omega⟩,Rj,fh,(((j+1:Nat):Int),cR vs (j*6) [_,_,_,_,_,_]),by dsimp only;omega,by and_intros<;>rfl,j+1,ms.set j (jJ ms[j]),rfl,by omega,by rw [List.length_set];exact O,?_,?_,?_⟩
  ·exact (d.le (V':=tm) fun _ _ g=>ck.le g Qg).put hj (by decide) rfl Uo
  ·exact (nM (xs:=[_,_,_,_,_,_]) fh).trans t
  ·intro y hy
   rcases List.mem_or_eq_of_mem_set hy with hy|rfl
   ·exact f y hy
   ·exact ⟨Qp ok,bd.rev⟩
 ·refine ⟨I,ms,mA bk v,i,v,t4,a3,rfl,?_,by omega,f⟩
  have e:i=ms.length:=by omega
  rw [e]
  exact cB.eZ E (d.le fun _ _ g=>ck.le g gT) (by decide) (by omega)
theorem iy {V:View}{v:Value}{q:Rat}(h:RQ V v q):ab prog 42 #[v] V fun r V'=>r=.int .i64 q.num.sign:=by
 obtain ⟨_,_,_,_,_,_,rfl,a,-⟩:=h
 exact uK q a
theorem qh {V:View}{v:Value}{p:Rat×Rat}(h:RP V v p.1 p.2):ab prog 155 #[v] V fun r V'=>r=.int .i64 (ai.half p):=by
 obtain ⟨_,_,_,_,_,_,_,_,_,_,_,_,rfl,g,i⟩:=h
 refine zV _ _ _ _ _ _ _ _ _ _ _ _ _ _ V _ fun w f=>(iy (g.le f)).mono ?_
 rintro r V2 j rfl
 refine ⟨_,rfl,fun x k=>(iy (i.le (f.trans (j.trans k)))).mono ?_⟩
 rintro r y A rfl
 have key:∀z:Int,(z=if p.2.num.sign>0\/p.2.num.sign=0/\p.1.num.sign>0 then 1 else if p.2.num.sign<0\/p.1.num.sign<0 then 2 else 0)->Value.int .i64 z=.int .i64 (ai.half p):=fun z e=>by rw [e];rfl
 refine ⟨_,rfl,fun a=>?_,fun a=>?_⟩
 ·have a:p.1.num.sign=0:=by simpa using a
  refine ⟨fun b B C=>key _ ?_,fun b=>⟨fun c l m=>key _ ?_,fun c=>⟨fun d=>⟨fun e n o=>key _ ?_,fun e q s=>key _ ?_⟩,fun d t u=>key _ ?_⟩⟩⟩
  ·have b:p.2.num.sign=0:=by simpa using b
   rw [if_neg (by omega),if_neg (by omega)]
  ·have c:p.2.num.sign>0:=of_decide_eq_true c
   rw [if_pos (.inl c)]
  ·have b:¬p.2.num.sign=0:=by simpa using b
   have d:p.2.num.sign=0:=by simpa using d
   exact absurd d b
  ·have b:¬p.2.num.sign=0:=by simpa using b
   have d:p.2.num.sign=0:=by simpa using d
   exact absurd d b
  ·have b:¬p.2.num.sign=0:=by simpa using b
   have c:¬p.2.num.sign>0:=of_decide_eq_false c
   rw [if_neg (by omega),if_pos (by omega)]
 ·have a:¬p.1.num.sign=0:=by simpa using a
  refine ⟨fun c l m=>key _ ?_,fun c=>⟨fun d=>⟨fun e n o=>key _ ?_,fun e q s=>key _ ?_⟩,fun d t u=>key _ ?_⟩⟩
  ·have c:p.2.num.sign>0:=of_decide_eq_true c
   rw [if_pos (.inl c)]
  ·have d:p.2.num.sign=0:=by simpa using d
   have e:p.1.num.sign>0:=of_decide_eq_true e
   rw [if_pos (.inr ⟨d,e⟩)]
  ·have d:p.2.num.sign=0:=by simpa using d
   have e:¬p.1.num.sign>0:=of_decide_eq_false e
   rw [if_neg (by omega),if_pos (by omega)]
  ·have d:¬p.2.num.sign=0:=by simpa using d
   have c:¬p.2.num.sign>0:=of_decide_eq_false c
   rw [if_neg (by omega),if_pos (by omega)]
theorem QC (q:Rat):-1<=q.num.sign/\q.num.sign<=1:=by
 rcases Int.lt_trichotomy q.num 0 with h|h|h
 ·rw [Int.sign_eq_neg_one_of_neg h];omega
 ·rw [h];decide
 ·rw [Int.sign_eq_one_of_pos h];omega
theorem yJ {V:View}{v w:Value}{a b:Rat×Rat}(h:RP V v a.1 a.2)(h':RP V w b.1 b.2){k:Nat}(s1:Sz k a.1)(s2:Sz k a.2)(s3:Sz k b.1)(s4:Sz k b.2)(hk:4*k+4<274877906944) :
  ab prog 86 #[v,w] V fun r V'=>r=.int .i64 (ai.cS a b):=by
 have f:=h
 have c:=h'
 obtain ⟨_,_,_,_,_,_,_,_,_,_,_,_,rfl,-⟩:=h
 obtain ⟨_,_,_,_,_,_,_,_,_,_,_,_,rfl,-⟩:=h'
 refine xV _ _ _ _ _ _ _ _ _ _ _ _ _ _ _ _ _ _ _ _ _ _ _ _ _ _ _ _ V _ fun s e=>(qh (f.le e)).mono ?_
 rintro r V2 i rfl
 refine ⟨_,rfl,fun t j=>(qh (c.le (e.trans (i.trans j)))).mono ?_⟩
 rintro r u n rfl
 have l:=e.trans (i.trans (j.trans n))
 refine ⟨_,rfl,fun g=>⟨fun d x y=>?_,fun d z A=>?_⟩,fun g B m=>(fy (f.le (l.trans m)) (c.le (l.trans m)) s1 s2 s3 s4 hk).mono ?_⟩
 ·unfold ai.cS;rw [if_pos (of_decide_eq_true d)]
 ·have g:ai.half a≠ai.half b:=by simpa using g
  have d:¬ai.half a<ai.half b:=of_decide_eq_false d
  unfold ai.cS;rw [if_neg d,if_pos (by omega)]
 ·have g:ai.half a=ai.half b:=by simpa using g
  rintro r C D gc
  have o:=gc
  obtain ⟨_,_,_,_,_,_,rfl⟩:=gc.shape
  refine ⟨_,_,_,_,_,_,_,rfl,fun E p=>(iy (o.le p)).mono ?_⟩
  rintro r F q rfl
  refine ⟨_,rfl,fun G H=>?_⟩
  have I:=QC (a.1*b.2-a.2*b.1)
  rw [ay (by omega)]
  unfold ai.cS;rw [if_neg (by omega),if_neg (by omega)]
  show _=Value.int .i64 (-(a.1*b.2-a.2*b.1).num.sign)
  congr 1;omega
theorem Dx {V:View}{v:Value}{p:Rat×Rat}(h:RP V v p.1 p.2){k:Nat}(s1:Sz k p.1)(s2:Sz k p.2)(hk:k<=1099511627776):ab prog 92 #[v] V fun r V'=>RP V' r (-p.1) (-p.2):=by
 obtain ⟨_,_,_,_,_,_,_,_,_,_,_,_,rfl,f,i⟩:=h
 refine CW _ _ _ _ _ _ _ _ _ _ _ _ _ _ V _ fun n b=>(jz (f.le b) s1 hk).mono ?_
 rintro r V2 j g
 have l:=g
 obtain ⟨_,_,_,_,_,_,rfl⟩:=g.shape
 refine ⟨_,_,_,_,_,_,_,rfl,fun o c=>(jz (i.le (b.trans (j.trans c))) s2 hk).mono ?_⟩
 rintro r q m d
 have a:=d
 obtain ⟨_,_,_,_,_,_,rfl⟩:=d.shape
 exact ⟨_,_,_,_,_,_,_,rfl,fun s e=>⟨_,_,_,_,_,_,_,_,_,_,_,_,rfl,l.le (c.trans (m.trans e)),a.le e⟩⟩
theorem i_ {V:View}{p:OA}{n:Nat}{al:List L3}(h:cB 6 ck V p n al){i:Nat}(hi:i<al.length) :
  p.isSome=true/\∃(b1:Bool)(p1:OA)(n1 c1:Nat)(b2:Bool)(p2:OA)(n2 c2:Nat)(b3:Bool)(p3:OA)(n3 c3:Nat)(a:Addr),ag p (i*6)=some a/\V.at (a.add 0) (.bool b1)/\V.at (a.add 1) (.slice p1 n1 c1)/\V.at (a.add 2) (.bool b2)/\V.at (a.add 3) (.slice p2 n2 c2)/\V.at (a.add 4) (.bool b3)/\V.at (a.add 5) (.slice p3 n3 c3) /\
   ck V (.agg #[.bool b1,.slice p1 n1 c1,.bool b2,.slice p2 n2 c2,.bool b3,.slice p3 n3 c3]) al[i]:=by
 obtain ⟨g,d,xs,j,f,b⟩:=h.at_ i hi
 have c:=f
 obtain ⟨_,_,_,_,_,_,_,_,_,_,_,_,e⟩:=cI f
 have e:=congrArg Array.toList (Value.agg.inj e)
 dsimp only at e
 subst e
 refine ⟨?_,_,_,_,_,_,_,_,_,_,_,_,_,g,d,b 0 _ rfl,b 1 _ rfl,b 2 _ rfl,b 3 _ rfl,b 4 _ rfl,b 5 _ rfl,c⟩
 cases p with
 | none=>cases d
 | some a=>rfl
theorem Oc {l m:L3}{k:Nat}(sl:kN k l)(sm:kN k m):Sz (20*k+20) (Ed l m)/\Sz (20*k+20) (Ee l m):=by
 unfold Ed Ee aP
 obtain ⟨a,b,c⟩:=sl
 obtain ⟨b1,b2,b3⟩:=sm
 exact ⟨(Sz.mul ((b.mul b3).sub (c.mul b2)) (cP ((a.mul b2).sub (b.mul b1)))).mono (by omega),(Sz.mul ((c.mul b1).sub (a.mul b3)) (cP ((a.mul b2).sub (b.mul b1)))).mono (by omega)⟩
def Gt (p:Rat×Rat):Rat×Rat:=(-p.1,-p.2)
def TE (l:L3):List (Rat×Rat):=[qI (ai.au l),Gt (qI (ai.au l))]
def LI (M:List L3):List (Rat×Rat):=M.flatMap TE
structure Ot (V:View) (n:Nat) (vs:List Value) (l:List (Rat×Rat)):Prop where
 row:Row 6 Mt V vs l
 len:n=l.length
 RY:l.length<50
theorem Ot.le {V V':View}{n:Nat}{vs:List Value}{l:List (Rat×Rat)}(h:Ot V n vs l)(e:V.Le V'):Ot V' n vs l:=⟨h.row.le fun _ _ g=>Mt.le g e,h.len,h.RY⟩
theorem Ot.get {V:View}{n:Nat}{vs:List Value}{l:List (Rat×Rat)}(h:Ot V n vs l){k:Nat}(hk:k<l.length):∃(x y:Int)(p:OA)(xb yb:Int)(pb:OA),
  ((0+k*6)+6<=vs.length/\(vs.drop (0+k*6)).take 6=[.int .i64 x,.int .i64 y,.pointer p,.int .i64 xb,.int .i64 yb,.pointer pb])/\Mt V (.agg #[.int .i64 x,.int .i64 y,.pointer p,.int .i64 xb,.int .i64 yb,.pointer pb]) (l.getD k PD):=by
 obtain ⟨xs,-,b,c,f⟩:=h.row.get (d:=PD) hk (by decide)
 have a:=b
 obtain ⟨x,y,p,xb,yb,pb,e⟩:=b.shape
 have e:=congrArg Array.toList (Value.agg.inj e)
 dsimp only at e
 subst e
 rw [Nat.zero_add]
 exact ⟨x,y,p,xb,yb,pb,⟨c,f⟩,a⟩
theorem Ot.swap {V:View}{n:Nat}{vs:List Value}{l:List (Rat×Rat)}(h:Ot V n vs l){i j:Nat}(hi:i<l.length)(hj:j<l.length){x y:Int}{p:OA}{xb yb:Int}{pb:OA}{x' y':Int}{p':OA}{QS QT:Int}{pb':OA}
  (h1:Mt V (.agg #[.int .i64 x,.int .i64 y,.pointer p,.int .i64 xb,.int .i64 yb,.pointer pb]) (l.getD i PD))(h2:Mt V (.agg #[.int .i64 x',.int .i64 y',.pointer p',.int .i64 QS,.int .i64 QT,.pointer pb']) (l.getD j PD)) :
  (0+i*6)+6<=vs.length/\(0+j*6)+6<=(cR vs (0+i*6) [.int .i64 x',.int .i64 y',.pointer p',.int .i64 QS,.int .i64 QT,.pointer pb']).length /\
  Ot V n (cR (cR vs (0+i*6) [.int .i64 x',.int .i64 y',.pointer p',.int .i64 QS,.int .i64 QT,.pointer pb']) (0+j*6) [.int .i64 x,.int .i64 y,.pointer p,.int .i64 xb,.int .i64 yb,.pointer pb]) (tO PD l i j):=by
 obtain ⟨-,-,-,a,-⟩:=h.row.get (d:=PD) hi (by decide)
 obtain ⟨-,-,-,b,-⟩:=h.row.get (d:=PD) hj (by decide)
 rw [Nat.zero_add,Nat.zero_add]
 refine ⟨a,by rw [nM (by exact a)];exact b,h.row.swap hi hj (by decide) rfl rfl h1 h2,by rw [qT];exact h.len,by rw [qT];exact h.RY⟩
def QE (u w:Rat×Rat):Rat×Rat:=if ai.cr u w>0 then (u.1+w.1,u.2+w.2) else (-u.2,u.1)
def LR (D:List (Rat×Rat)):List (Rat×Rat):=if D=[] then [(1,0)] else ai.TN QE D
theorem Gr (n:Int){d:Nat}(h:d≠0):mkRat n d*((d:Nat):Rat)=(n:Rat):=by
 have a:((d:Nat):Rat)≠0:=by exact_mod_cast h
 rw [Rat.mkRat_eq_div,Rat.div_def]
 exact ai.inv_mul a _
theorem Kn {p:Rat×Rat}(h:ai.nz p):iL p.1 p.2>0:=by
 have a:p.1.den*p.2.den≠0:=Nat.mul_ne_zero p.1.den_nz p.2.den_nz
 have e:=Gr (Nat.gcd (p.1.num.natAbs*p.2.den) (p.2.num.natAbs*p.1.den):Nat) a
 have b:0<Nat.gcd (p.1.num.natAbs*p.2.den) (p.2.num.natAbs*p.1.den):=by
  apply Nat.pos_of_ne_zero
  intro z
  rw [Nat.gcd_eq_zero_iff] at z
  have c:p.1=0:=by
   rcases Nat.mul_eq_zero.1 z.1 with e|e
   ·exact Rat.num_eq_zero.1 (by omega)
   ·exact absurd e p.2.den_nz
  have d:p.2=0:=by
   rcases Nat.mul_eq_zero.1 z.2 with e|e
   ·exact Rat.num_eq_zero.1 (by omega)
   ·exact absurd e p.1.den_nz
  unfold ai.nz at h
  rcases h with h|h
  ·exact h c
  ·exact h d
 have d0:((p.1.den*p.2.den:Nat):Rat)>0:=by exact_mod_cast Nat.pos_of_ne_zero a
 have g:(((Nat.gcd (p.1.num.natAbs*p.2.den) (p.2.num.natAbs*p.1.den):Nat):Int):Rat)>0:=by exact_mod_cast b
 show mkRat _ _>0
 generalize mkRat ((Nat.gcd (p.1.num.natAbs*p.2.den) (p.2.num.natAbs*p.1.den):Nat):Int) (p.1.den*p.2.den)=q at *
 by_cases f:q>0
 ·exact f
 ·have:=ai.mn (show -q≥0 by grind) (show ((p.1.den*p.2.den:Nat):Rat)≥0 by grind)
  grind
theorem Ew {p:Rat×Rat}(h:ai.nz p):∃c:Rat,c>0/\qI p=(c*p.1,c*p.2):=
 ⟨(iL p.1 p.2)⁻¹,Rat.inv_pos.2 (Kn h),Prod.ext (Rat.mul_comm ..) (Rat.mul_comm ..)⟩
theorem HX {l:L3}(h:¬(l.1=0/\l.2.1=0)):ai.nz (ai.au l):=by
 unfold ai.nz ai.au
 by_cases e:l.2.1=0
 ·right
  intro a
  have:(l.1:Rat)=0:=by grind
  exact h ⟨by exact_mod_cast this,e⟩
 ·left
  show (l.2.1:Rat)≠0
  exact_mod_cast e
def Vn (s a:Bool):Int:=if a then 2 else if s then 1 else 0
def Hm (t:Tr)(p:Rat×Rat)(c:Int):Prop:=∀D S,ai.Oo D->ai.Ug D S->ai.QX D (ai.lr t p)->c=Vn (ai.anyS t p S) (ai.MK t p S)
theorem Ny {q:L3->Prop}{t:Tr}(h:t.Mr q){p:Rat×Rat}:∀l∈ai.lr t p,q l:=fun l a=>Cd h l (ai.wL a).2
theorem N8 {u w:Rat×Rat}(h:ai.cr u w≥0):ai.Ih u w (QE u w):=by
 unfold QE
 by_cases g:ai.cr u w>0
 ·rw [if_pos g]
  exact .inl ⟨g,1,1,by decide,by decide,Prod.ext (by unfold ai.MB;grind) (by unfold ai.MB;grind)⟩
 ·rw [if_neg g]
  exact .inr ⟨by grind,1,by decide,Prod.ext (by unfold ai.MB ai.TU;grind) (by unfold ai.MB ai.TU;grind)⟩
theorem Jo {D:List (Rat×Rat)}(h:ai.Oo D):ai.Ug D (LR D):=by
 unfold LR
 by_cases e:D=[]
 ·rw [if_pos e];exact .inl ⟨e,rfl⟩
 ·rw [if_neg e];exact ai.N6 h (fun u _ w _ a=>N8 a) e
theorem NP {M:List L3}(ho:∀l∈M,¬(l.1=0/\l.2.1=0)){m:List (Rat×Rat)}(pm:m.Perm (LI M))(pw:m.Pairwise fun x y=>¬RV y x<0):ai.Oo (yV eP m)/\ai.QX (yV eP m) M:=by
 have mem:∀r,r∈m↔∃l∈M,r=qI (ai.au l)\/r=Gt (qI (ai.au l)):=fun r=>by
  rw [pm.mem_iff]
  unfold LI TE
  simp only [List.mem_flatMap,List.mem_cons,List.not_mem_nil,or_false]
 have key:=ai.Qv (m:=m) pw ?_ ?_
 ·obtain ⟨j,k⟩:=key
  refine ⟨j,fun l a=>?_⟩
  obtain ⟨y,n,c,o,e⟩:=k (qI (ai.au l)) ((mem _).2 ⟨l,a,.inl rfl⟩)
  obtain ⟨d,d0,g⟩:=Ew (HX (ho l a))
  refine ⟨y,n,c*d,ai.mp o d0,?_⟩
  rw [e,g]
  exact Prod.ext (by show c*(d*_)=_;grind) (by show c*(d*_)=_;grind)
 ·intro r i
  obtain ⟨l,a,h⟩:=(mem r).1 i
  have b:=HX (ho l a)
  obtain ⟨d,d0,g⟩:=Ew b
  have f:ai.nz (qI (ai.au l)):=by
   rw [g]
   unfold ai.nz at b ⊢
   rcases b with b|b
   ·exact .inl fun h=>by rcases Rat.mul_eq_zero.1 h with h|h;grind;exact b h
   ·exact .inr fun h=>by rcases Rat.mul_eq_zero.1 h with h|h;grind;exact b h
  rcases h with rfl|rfl
  ·exact f
  ·unfold ai.nz Gt at *
   rcases f with f|f
   ·exact .inl (by show -(qI (ai.au l)).1≠0;grind)
   ·exact .inr (by show -(qI (ai.au l)).2≠0;grind)
 ·intro r i
  obtain ⟨l,a,h⟩:=(mem r).1 i
  rcases h with rfl|rfl
  ·exact ⟨_,(mem _).2 ⟨l,a,.inr rfl⟩,1,by decide,by unfold Gt;grind,by unfold Gt;grind⟩
  ·exact ⟨_,(mem _).2 ⟨l,a,.inl rfl⟩,1,by decide,by unfold Gt;grind,by unfold Gt;grind⟩
def Ms (V:View)(w:Value)(p:Rat×Rat):Prop:=(∃b q n c q' n' c' d r m e r' m' e',w=.agg #[.bool b,.slice q n c,.slice q' n' c',.bool d,.slice r m e,.slice r' m' e']) /\
 ∀V1,V.Le V1->ab prog 115 #[w] V1 fun r V'=>oF V' r p.1 p.2
theorem Ms.le {V V':View}{w:Value}{p:Rat×Rat}(h:Ms V w p)(l:V.Le V'):Ms V' w p:=⟨h.1,fun a b=>h.2 a (l.trans b)⟩
theorem Ms.of {V:View}{w:Value}{p:Rat×Rat}(h:Hn V w p.1 p.2){k:Nat}(s1:Sz k p.1)(s2:Sz k p.2)(hk:k<=1099511627776):Ms V w p:=by
 refine ⟨?_,fun f a=>FM (h.le a) s1 s2 hk⟩
 obtain ⟨b,q,n,c,g,i,j,d,r,m,e,l,o,s,rfl,-⟩:=h
 exact ⟨_,_,_,_,_,_,_,_,_,_,_,_,_,_,rfl⟩
theorem Ms.raw {V:View}{b d:Bool}{q q' r r':OA}{n c n' c' m e m' e':Nat}{xs ys us vs:List Nat}(h1:RD V q n c xs)(h2:RD V q' n' c' ys)(h3:RD V r m e us)(h4:RD V r' m' e' vs)(k1:xs.length<=1000000)(k2:ys.length<=1000000)(k3:us.length<=1000000)(k4:vs.length<=1000000) :
  Ms V (.agg #[.bool b,.slice q n c,.slice q' n' c',.bool d,.slice r m e,.slice r' m' e']) (mkRat (aY b xs) (val ys),mkRat (aY d us) (val vs)):=by
 refine ⟨⟨_,_,_,_,_,_,_,_,_,_,_,_,_,_,rfl⟩,fun o a=>?_⟩
 refine tW b q n c q' n' c' d r m e r' m' e' o _ fun t f=>(ph b (h1.le (a.trans f)) (h2.le (a.trans f)) (by omega) (by omega)).mono ?_
 rintro r V2 j g
 have p:=g
 obtain ⟨u,v,w,rfl⟩:=g.shape
 refine ⟨_,_,_,rfl,fun x h=>(ph d (h3.le (a.trans (f.trans (j.trans h)))) (h4.le (a.trans (f.trans (j.trans h)))) (by omega) (by omega)).mono ?_⟩
 rintro r y s k
 have i:=k
 obtain ⟨z,A,B,rfl⟩:=k.shape
 exact ⟨_,_,_,rfl,fun C l=>⟨_,_,_,_,_,_,rfl,p.le (h.trans (s.trans l)),i.le l⟩⟩
theorem Ms.zero {V:View}:Ms V (.agg #[.bool false,.slice none 0 0,.slice none 0 0,.bool false,.slice none 0 0,.slice none 0 0]) (0,0):=by
 have e:mkRat (aY false []) (val [])=0:=by decide
 have:=@Ms.raw V false false none none none none 0 0 0 0 0 0 0 0 [] [] [] [] RD.nil RD.nil RD.nil RD.nil (by decide) (by decide) (by decide) (by decide)
 rw [e] at this
 exact this
def Q1 (k:Nat)(V:View)(v:Value)(c:Rat×Rat):Prop:=RP V v c.1 c.2/\Sz k c.1/\Sz k c.2
theorem Q1.le {k:Nat}{V V':View}{v:Value}{c:Rat×Rat}(h:Q1 k V v c)(l:V.Le V'):Q1 k V' v c:=⟨h.1.le l,h.2⟩
theorem Q1.mono {k m:Nat}{V:View}{v:Value}{c:Rat×Rat}(h:Q1 k V v c)(l:k<=m):Q1 m V v c:=⟨h.1,h.2.1.mono l,h.2.2.mono l⟩
structure UX (V:View) (y z:Value):Prop where
 inv:Dd V 0 y
 lim:Dd V 3 z
 yE:FA y
 zE:FA z
theorem UX.le {V V':View}{y z:Value}(h:UX V y z)(l:V.Le V'):UX V' y z:=⟨h.inv.le l,h.lim.le l,h.yE,h.zE⟩
theorem AT.leaf {V:View}(i:Bool):AT V (.agg #[.int .i64 (rt 0 (.leaf i)),.slice none 0 0]) (rt 0 (.leaf i)) (wr 0 (.leaf i)):=⟨_,_,_,rfl,NS.nil⟩
def Ii (V:View)(vs:List Value)(i:Nat)(d:Nd):Prop:=∃(b1:Bool)(p1:OA)(n1 c1:Nat)(b2:Bool)(p2:OA)(n2 c2:Nat)(b3:Bool)(p3:OA)(n3 c3:Nat),
 (∀j v,([.bool b1,.slice p1 n1 c1,.bool b2,.slice p2 n2 c2,.bool b3,.slice p3 n3 c3,.int .i64 d.left,.int .i64 d.right]:List Value)[j]?=some v->vs[i*8+j]?=some v) /\
 rH V (.agg #[.bool b1,.slice p1 n1 c1,.bool b2,.slice p2 n2 c2,.bool b3,.slice p3 n3 c3]) d.ln
theorem Ii.le {V V':View}{vs:List Value}{i:Nat}{d:Nd}(h:Ii V vs i d)(hl:V.Le V'):Ii V' vs i d:=by
 obtain ⟨b1,a,b,c,b2,e,f,g,b3,j,k,l,m,n⟩:=h
 exact ⟨b1,a,b,c,b2,e,f,g,b3,j,k,l,m,n.le hl⟩
theorem Lw {vs xs:List Value}{k i:Nat}(hx:xs.length=8)(h:k*8+8<=vs.length)(hi:i<k*8\/k*8+8<=i):(vs.take (k*8)++xs++vs.drop (k*8+8))[i]?=vs[i]?:=by
 have a:(vs.take (k*8)).length=k*8:=by rw [List.length_take];omega
 rcases hi with hi|hi
 ·rw [List.append_assoc,List.getElem?_append_left (by omega),List.getElem?_take,if_pos hi]
 ·rw [List.getElem?_append_right (by rw [List.length_append];omega),List.length_append,a,hx,List.getElem?_drop]
  congr 1
  omega
theorem lt8 {a b c d e f g h v:Value}{j:Nat}(hv:([a,b,c,d,e,f,g,h]:List Value)[j]?=some v):j<8:=by
 rcases Nat.lt_or_ge j 8 with i|i
 ·exact i
 ·rw [List.getElem?_eq_none (by simpa using i)] at hv;cases hv
theorem Ii.out {V:View}{vs xs:List Value}{k i:Nat}{d:Nd}(h:Ii V vs i d)(hx:xs.length=8)(hk:k*8+8<=vs.length)(hi:i≠k):Ii V (vs.take (k*8)++xs++vs.drop (k*8+8)) i d:=by
 obtain ⟨b1,b,c,e,b2,f,g,l,b3,m,n,o,p,q⟩:=h
 refine ⟨b1,b,c,e,b2,f,g,l,b3,m,n,o,fun j v a=>?_,q⟩
 have:=lt8 a
 rw [Lw hx hk (by omega)]
 exact p j v a
def vm (n b m:Nat):Nat:=(n-1-m+(n-b))%n
def HI (V:View):View:=⟨V.w,fun b=>b<V.w.heap.size,fun _=>False,fun _ h=>h,fun _ h=>h.elim⟩
theorem FB {f:FuncId}{args:Array Value}{V:View}{o:Obj}(h:ab prog f args (HI V) fun r V'=>∃bk,r=.pointer (some ⟨bk,0,none⟩)/\V'.bI bk o) :
  ab prog f args V fun r V'=>∃bk,r=.pointer (some ⟨bk,0,none⟩)/\V.w.heap.size<=bk/\V'.bI bk o:=
 ⟨h.1,h.2.mono fun _ _ ⟨_,he,a,bk,d,c⟩=>⟨_,he,⟨a.size,fun b c _=>a.bI b c (fun h=>h),a.os,a.tape,a.out⟩,bk,d,Nat.le_of_not_lt c.1,fun e=>c.1 (V.hH bk e),c.2⟩⟩
theorem DC {V:View}{lp:OA}{ln lc:Nat}(hc:ln<=lc) :
  ab prog 21 #[.slice lp ln lc] V fun r V'=>∃bk,r=.pointer (some ⟨bk,0,none⟩)/\V.w.heap.size<=bk/\V'.bI bk (.cells #[.slice lp (min ln 400) lc,.int .i64 0] 136 (0,0)):=by
 refine FB (C5 lp ln lc (HI V) _ ?_)
 have e:bV (ln:Int) 400=((min ln 400:Nat):Int):=by
  unfold bV
  simp only [Nat.min_def]
  split<;>split<;>omega
 rw [e,Int.toNat_natCast]
 have:=Nat.min_le_left ln 400
 exact ⟨⟨by omega,by omega⟩,fun b c bk a=>⟨bk,rfl,a⟩⟩
theorem KW {V1 V2 V3:View}{bk:Nat}(l2:V1.Le V2)(hfr:V1.w.heap.size<=bk)(l3:(V2.Kt bk).Le V3):V1.Le V3:=fun b o h=>l3 b o ⟨fun c=>c.elim (l2 b o h).1 fun e=>by
  have d:b<V1.w.heap.size:=by
   rcases Nat.lt_or_ge b V1.w.heap.size with a|a
   ·exact a
   ·have:=h.2;rw [Array.getElem?_eq_none a] at this;cases this
  have:=e.1
  omega,(l2 b o h).2⟩
theorem Jq (l:List (Rat×Rat)):∃m:List (Rat×Rat),m.Perm l/\m.Pairwise fun x y=>¬RV y x<0:=by
 refine ⟨l.mergeSort (fun x y=>decide (¬RV y x<0)),List.mergeSort_perm ..,?_⟩
 refine (List.pairwise_mergeSort (le:=fun x y=>decide (¬RV y x<0)) (fun a b c d e=>?_) (fun a b=>?_) l).imp fun h=>of_decide_eq_true h
 ·exact decide_eq_true (ai.vk c b a (of_decide_eq_true e) (of_decide_eq_true d))
 ·by_cases h:RV b a<0
  ·have:=ai.pY b a h
   rw [Bool.or_eq_true]
   exact .inr (decide_eq_true this)
  ·rw [Bool.or_eq_true]
   exact .inl (decide_eq_true h)
theorem indep {t:Tr}{l:L3}(ho:(Tr.node l t t).Mr fun l=>¬(l.1=0/\l.2.1=0)){p:Rat×Rat}{a b:Int}(h1:Hm t p a)(h2:Hm (.node l t t) p b):a=b:=by
 obtain ⟨m,pm,g⟩:=Jq (LI (ai.lr (.node l t t) p))
 obtain ⟨d,f⟩:=NP (Ny ho) pm g
 have sm:=Jo d
 have sub:∀x∈ai.lr t p,x∈ai.lr (.node l t t) p:=fun x c=>by
  rw [ai.lr]
  by_cases e:ar l p.1 p.2≥0
  ·rw [if_pos e];exact List.mem_append_right _ (List.mem_append_left _ c)
  ·rw [if_pos (show ar l p.1 p.2<=0 by grind)];exact List.mem_append_right _ (List.mem_append_right _ c)
 have i:=h1 _ _ d sm fun l j=>f l (sub l j)
 have k:=h2 _ _ d sm f
 generalize LR (yV eP m)=S at *
 have key:∀v∈S,ai.ER (.node l t t) p v=ai.ER t p v:=fun v o=>by
  have n:=f.gen (ai.N9 d sm v o)
  have:=(ai.xA n fun l _=>⟨id,id⟩).2
  rw [ai.ER] at this ⊢
  split
  ·rfl
  ·rename_i q
   rw [if_neg q] at this
   split
   ·rfl
   ·rename_i r
    rw [if_neg r] at this
    cases this
 have s:ai.anyS (.node l t t) p S=ai.anyS t p S:=by
  unfold ai.anyS
  rw [Bool.eq_iff_iff,List.any_eq_true,List.any_eq_true]
  constructor
  ·rintro ⟨x,c,h⟩;exact ⟨x,c,by rw [←key x c];exact h⟩
  ·rintro ⟨x,c,h⟩;exact ⟨x,c,by rw [key x c];exact h⟩
 have u:ai.MK (.node l t t) p S=ai.MK t p S:=by
  unfold ai.MK
  rw [Bool.eq_iff_iff,List.all_eq_true,List.all_eq_true]
  constructor
  ·intro h x c;rw [←key x c];exact h x c
  ·intro h x c;rw [key x c];exact h x c
 rw [i,k,s,u]
end Go.Proofs.Tryz
namespace Go.bM
def View.bare (V:View)(b:Nat):View:=⟨V.w,fun x=>V.H x/\x≠b,fun x=>V.X x/\x≠b,fun x h=>V.hH x h.1,fun x h=>⟨V.hX x h.1,h.2⟩⟩
theorem ab.bare {P:Program}{f:FuncId}{args:Array Value}{V:View}{b:Nat}{R:Value->View->Prop}(hs:b<V.w.heap.size)(h:ab P f args (V.bare b) R) :
  ab P f args V fun r V'=>V'.w.heap[b]?=V.w.heap[b]?/\R r (V'.bare b):=by
 refine ⟨h.1,h.2.mono fun _ g ⟨r,he,a,c⟩=>⟨r,he,⟨a.size,fun x d e=>a.bI x d fun h=>e h.1,a.os,a.tape,a.out⟩,a.bI b hs (fun h=>h.2 rfl),c⟩⟩
def Om (V:View)(b:Nat):Prop:=∃(cs:Array Value)(ty:TypeId)(m:Nat×Nat),V.w.heap[b]?=some (.cells cs ty m)/\∀v∈cs,∀k z,v≠.int k z
theorem Om.ne {V:View}{b:Nat}(h:Om V b){a:Addr}{k:IntKind}{z:Int}(ha:(V.bare b).at a (.int k z)):a.block≠b:=by
 obtain ⟨cs,ty,m,f,g⟩:=h
 intro e
 have c:=ha.2
 unfold World.cell? at c
 rw [e] at c
 have d:(V.bare b).w.heap[b]?=some (.cells cs ty m):=f
 rw [d] at c
 dsimp only at c
 split at c
 ·cases c
 ·obtain ⟨i,j⟩:=Array.getElem?_eq_some_iff.1 c
  exact g _ (j▸Array.getElem_mem i) k z rfl
end Go.bM
namespace Go.Proofs.Tryz
open Go.bM Go.fR
theorem oo {a b:Rat}:fA a b<0↔a<b:=by
 constructor
 ·intro h
  by_cases c:a<b
  ·exact c
  ·by_cases e:a=b
   ·have:=iV.1 e;omega
   ·have:=uL.1 (show b<a by grind);omega
 ·intro h;have:=BQ.1 h;omega
theorem uZ:Sz 10 ((1:Int):Rat):=Fv (z:=1) (by omega)
theorem TR {l:L3}(h:Bd l){k:Nat}{p:Rat×Rat}(s1:Sz k p.1)(s2:Sz k p.2):Sz (2*k+3010) (ar l p.1 p.2):=by
 have:=h.fa
 exact (((this.1.mul s1).add (this.2.1.mul s2)).add this.2.2).mono (by omega)
theorem Lh {p v:Rat×Rat}{ls:List L3}{i:Nat}(h:i<ls.length)(s:Rat):(ls.take (i+1)).foldl (ai.Cg p v) s=ai.Cg p v ((ls.take i).foldl (ai.Cg p v) s) ls[i]:=by
 rw [←List.take_append_getElem h,List.foldl_append]
 rfl
theorem HB {a b:Rat}:fA a b>0↔b<a:=by
 constructor
 ·intro h
  rcases me a b with ⟨g,e⟩|⟨g,e⟩|⟨g,e⟩<;>first|omega|exact g
 ·intro h;have:=uL.1 h;omega
abbrev S16:=Bool×OA×Nat×Nat×OA×Nat×Nat×Bool×OA×Nat×Nat×OA×Nat×Nat×Bool×Bool
def Uk (z:S16):Value:=.agg #[.bool z.1,.slice z.2.1 z.2.2.1 z.2.2.2.1,.slice z.2.2.2.2.1 z.2.2.2.2.2.1 z.2.2.2.2.2.2.1,.bool z.2.2.2.2.2.2.2.1,.slice z.2.2.2.2.2.2.2.2.1 z.2.2.2.2.2.2.2.2.2.1 z.2.2.2.2.2.2.2.2.2.2.1,.slice z.2.2.2.2.2.2.2.2.2.2.2.1 z.2.2.2.2.2.2.2.2.2.2.2.2.1 z.2.2.2.2.2.2.2.2.2.2.2.2.2.1,.bool z.2.2.2.2.2.2.2.2.2.2.2.2.2.2.1,.bool z.2.2.2.2.2.2.2.2.2.2.2.2.2.2.2]
theorem rsS {V:View}{xb:Bool}{xp:OA}{xn xc:Nat}{xq:OA}{xm xe:Nat}{yb:Bool}{yp:OA}{yn yc:Nat}{yq:OA}{ym ye:Nat}{xa ya:Bool}{s:Sp}(h:Fz V (.agg #[.bool xb,.slice xp xn xc,.slice xq xm xe,.bool yb,.slice yp yn yc,.slice yq ym ye,.bool xa,.bool ya]) s):xa=s.a/\ya=s.b/\RQ V (.agg #[.bool xb,.slice xp xn xc,.slice xq xm xe]) s.lo/\RQ V (.agg #[.bool yb,.slice yp yn yc,.slice yq ym ye]) s.hi:=by
 obtain ⟨_,_,_,_,_,_,_,_,_,_,_,_,_,_,e,c,d⟩:=h
 have e:=congrArg Array.toList (Value.agg.inj e)
 simp only [List.cons.injEq,Value.bool.injEq,Value.slice.injEq,and_true] at e
 obtain ⟨rfl,⟨rfl,rfl,rfl⟩,⟨rfl,rfl,rfl⟩,rfl,⟨rfl,rfl,rfl⟩,⟨rfl,rfl,rfl⟩,rfl,rfl⟩:=e
 exact ⟨rfl,rfl,c,d⟩
theorem TJ {V:View}{xb:Bool}{xp:OA}{xn xc:Nat}{xq:OA}{xm xe:Nat}{yb:Bool}{yp:OA}{yn yc:Nat}{yq:OA}{ym ye:Nat}{xa ya:Bool}{s:Sp}(ea:xa=s.a)(eb:ya=s.b)(h1:RQ V (.agg #[.bool xb,.slice xp xn xc,.slice xq xm xe]) s.lo)(h2:RQ V (.agg #[.bool yb,.slice yp yn yc,.slice yq ym ye]) s.hi):Fz V (.agg #[.bool xb,.slice xp xn xc,.slice xq xm xe,.bool yb,.slice yp yn yc,.slice yq ym ye,.bool xa,.bool ya]) s:=by
 subst ea eb;exact ⟨_,_,_,_,_,_,_,_,_,_,_,_,_,_,rfl,h1,h2⟩
def nF (l m:L3)(s:Sp):Sp:=if 0<(cZ m l).num.sign then (if s.a=true\/s.lo<mw l m then ⟨mw l m,s.hi,false,s.b⟩ else s) else (if s.b=true\/mw l m<s.hi then ⟨s.lo,mw l m,s.a,false⟩ else s)
theorem AE {l m:L3}{s:Sp}(hc:aP l m≠0):qn l m s=if (nF l m s).a=false/\(nF l m s).b=false/\(nF l m s).hi<=(nF l m s).lo then none else some (nF l m s):=by
 unfold qn;rw [if_neg hc];rfl
theorem II {l m:L3}{s:Sp}(hc:aP l m=0):qn l m s=if (ar m (fm l 0) (fu l 0)).num.sign<=0 then none else some s:=by
 unfold qn;rw [if_pos hc]
theorem Ia {l m:L3}(hl:Nz l)(bl:Bd l)(bm:Bd m)(hc:aP l m≠0):Sz 100000 (mw l m):=by
 rw [Et hl hc];exact (uY bl.fa bm.fa).mono (by omega)
theorem Qi {l m:L3}{s:Sp}(hl:Nz l)(bl:Bd l)(bm:Bd m)(hc:aP l m≠0)(hs:s.sz 100000):(nF l m s).sz 100000:=by
 have:=Ia hl bl bm hc
 unfold nF
 split<;>split<;>first|exact hs|exact ⟨this,hs.2⟩|exact ⟨hs.1,this⟩
theorem Kc {l m:L3}{s w:Sp}(hl:Nz l)(bl:Bd l)(bm:Bd m)(sg:s.jW)(hs:s.sz 100000)(e:qn l m s=some w):w.jW/\w.sz 100000:=by
 rw [vU hl sg] at e
 split at e
 ·rename_i g
  cases e
  exact ⟨lf sg g,CB bl.fa bm.fa hs (by omega)⟩
 ·cases e
theorem NN {V:View}{v:Value}{L:L3}(h:RL V v L.1 L.2.1 L.2.2)(hz:Nz L)(hb:Bd L):ab prog 153 #[v] V fun r V'=>RP V' r (fm L 0) (fu L 0):=by
 have sl:=hb.fa
 refine (qf h (GJ hz) sl.1 sl.2.1 sl.2.2 (by omega)).mono fun r V' _ g=>?_
 have b:fm L 0=_:=rfl
 unfold fm fu
 unfold fZ
 have a:∀x y:Rat,x=y->∀z w:Rat,z=w->RP V' r x z->RP V' r y w:=by rintro x _ rfl z _ rfl h;exact h
 refine a _ _ ?_ _ _ ?_ g<;>grind
theorem L_ {L:L3}(hb:Bd L):Sz 30000 (fm L 0)/\Sz 30000 (fu L 0):=by
 have sl:=hb.fa
 exact ⟨Sz.mono (Cz sl (JI 1000 (by omega))) (by omega),Sz.mono (CA sl (JI 1000 (by omega))) (by omega)⟩
theorem qi {V:View}{cp:OA}{cn cc:Nat}{ls:List L3}{i:Nat}(h:cB 6 ck V cp cn ls)(hb:∀l∈ls,Bd l)(hk:∀l∈ls,dH l=true)(hl:ls.length<=1000)(hi:i<ls.length) :
  ab prog 85 #[.slice cp cn cc,.int .i64 i] V fun r V'=>∃u s,r=.tuple #[u,.bool (dV ls[i] ls bD).isSome]/\Fz V' u s/\s.sz 100000/\∀w,dV ls[i] ls bD=some w->s=w:=by
 have hn:=h.len
 subst hn
 obtain ⟨is,b1,p1,n1,c1,b2,p2,n2,c2,b3,p3,n3,c3,a,a6,a0,a1,a2,a3,a4,a5,n⟩:=i_ h hi
 have v:=hb _ (List.getElem_mem hi)
 have ok:=hk _ (List.getElem_mem hi)
 generalize el:ls[i]=L at *
 have sl:=v.fa
 have nz:=Ch ok
 have hd:=eo v
 refine z_ cp ls.length cc (i:Int) V _ ⟨is,⟨by omega,by omega⟩,b1,p1,n1,c1,b2,p2,n2,c2,b3,p3,n3,c3,a,(by rw [Int.toNat_natCast];exact a6),a0,a1,a2,a3,a4,a5,fun V1 l1=>BM.mono ?_⟩
 rintro r V2 l2 gf
 have a7:=gf
 obtain ⟨_,_,_,_,_,_,_,_,_,_,_,_,_,_,rfl⟩:=xf gf
 have KD:=l1.trans l2
 refine ⟨_,_,_,_,_,_,_,_,_,_,_,_,_,_,_,_,rfl,fun z V'=>∃(j:Nat)(s:Sp),z.1=(j:Int)/\j<=ls.length/\Fz V' (Uk z.2) s/\s.jW/\s.sz 100000/\dV L ls bD=dV L (ls.drop j) s,fun z=>(ls.length-z.1).toNat,⟨(0,_,_,_,_,_,_,_,_,_,_,_,_,_,_,_,_),by and_intros<;>first|rfl|trivial,0,bD,rfl,Nat.zero_le _,a7,lg,HG (by omega),by rw [List.drop_zero]⟩,?_⟩
 rintro ⟨z,G,H,I,J,N,O,P,Q,R,S,T,U,X,Y,Z,ya⟩ V3 l3 ⟨j,s,ez,hj,gs,sg,ss,d⟩
 dsimp only [Uk] at ez gs ⊢
 subst ez
 obtain ⟨rfl,rfl,C,D⟩:=rsS gs
 have x:=KD.trans l3
 refine ⟨by trivial,fun f=>?_,fun f b7 HO=>?_⟩
 rotate_left
 ·have e:j=ls.length:=by have:=of_decide_eq_false f;omega
  subst e
  rw [List.drop_length] at d
  exact ⟨_,s,by rw [d];rfl,gs.le HO,ss,fun w e=>by rw [d] at e;exact Option.some.inj e⟩
 have f:j<ls.length:=by have:=of_decide_eq_true f;omega
 have w1:i64.wrap ((j:Int)+1)=((j+1:Nat):Int):=by rw [ay (by omega)];rfl
 rw [w1,Int.toNat_natCast]
 obtain ⟨a8,B1,P1,N1,C1,B2,P2,N2,C2,B3,P3,N3,C3,A,a9,A0,A1,A2,A3,A4,A5,o⟩:=i_ (h.le x fun _ _ g=>ck.le g x) f
 have E:=hb _ (List.getElem_mem f)
 have sm:=E.fa
 have F9:=eo E
 have ej:j=i->ls[j]=L:=fun e=>by subst e;exact el
 have ed:ls.drop j=ls[j]::ls.drop (j+1):=List.drop_eq_getElem_cons f
 rw [ed] at d
 generalize ls[j]=M at *
 have b0:dV L (M::ls.drop (j+1)) s=if M=L then dV L (ls.drop (j+1)) s else match qn L M s with|some s'=>dV L (ls.drop (j+1)) s'|none=>none:=rfl
 rw [b0] at d
 have next:∀{W:View} {G:Bool} {H:OA} {I J:Nat} {N:OA} {O P:Nat} {Q:Bool} {R:OA} {S T:Nat} {U:OA} {X Y:Nat} {Z ya:Bool} {s':Sp},Fz W (.agg #[.bool G,.slice H I J,.slice N O P,.bool Q,.slice R S T,.slice U X Y,.bool Z,.bool ya]) s'->s'.jW->s'.sz 100000->dV L ls bD=dV L (ls.drop (j+1)) s'->∃(j':Nat)(s:Sp),((j+1:Nat):Int)=(j':Int)/\j'<=ls.length/\Fz W (.agg #[.bool G,.slice H I J,.slice N O P,.bool Q,.slice R S T,.slice U X Y,.bool Z,.bool ya]) s/\s.jW/\s.sz 100000/\dV L ls bD=dV L (ls.drop j') s:=fun g1 g2 g3 e=>⟨j+1,_,rfl,f,g1,g2,g3,e⟩
 refine ⟨a8,⟨by omega,by omega⟩,B1,P1,N1,C1,B2,P2,N2,C2,B3,P3,N3,C3,A,a9,A0,A1,A2,A3,A4,A5,fun z _=>z=decide (M=L),⟨fun c=>⟨true,by and_intros<;>rfl,?_⟩,fun c V4 l4=>(tC (n.le (x.trans l4)) (o.le l4) sl sm (by omega)).mono ?_⟩,?_⟩
 ·exact (decide_eq_true (ej (by have:=of_decide_eq_true c;omega))).symm
 ·rintro r V5 l5 rfl
  exact ⟨_,rfl,(FY L M==(0:Int)),by and_intros<;>rfl,by rw [DF];exact decide_eq_decide.2 eq_comm⟩
 rintro z V6 l6 rfl
 refine ⟨by trivial,fun c=>?_,fun c V7 l7=>(LG (n.le (x.trans (l6.trans l7))) (o.le (l6.trans l7)) sl sm (by omega)).mono ?_⟩
 ·rw [if_pos (of_decide_eq_true c)] at d
  exact ⟨(((j+1:Nat):Int),_,_,_,_,_,_,_,_,_,_,_,_,_,_,_,_),by dsimp only;omega,by and_intros<;>rfl,next (gs.le l6) sg ss d⟩
 rw [if_neg (of_decide_eq_false c)] at d
 rintro r V8 l8 ⟨u,rfl,q0,q1⟩
 obtain ⟨s1,s2⟩:=Oc sl sm
 have KR:=l6.trans (l7.trans l8)
 by_cases p:aP L M=0
 ·have qz:=q0 p
  unfold On at qz
  subst qz
  rw [II p] at d
  refine ⟨_,_,_,_,_,_,_,_,_,_,_,_,_,_,_,rfl,fun _ V9 l9=>(NN (n.le (x.trans (KR.trans l9))) nz v).mono ?_,fun h=>by simp [p] at h⟩
  rintro r iI b5 gB
  have Sa:=gB
  obtain ⟨_,_,_,_,_,_,_,_,_,_,_,_,rfl,-⟩:=gB
  have SO:=KR.trans (l9.trans b5)
  refine ⟨_,_,_,_,_,_,_,_,_,_,_,_,_,_,rfl,fun ie bA=>(Cs (o.le (SO.trans bA)) (Sa.le bA) (sm.up (K:=30000) (by omega)) (L_ v).1 (L_ v).2 (by omega)).mono ?_⟩
  rintro r lL bY rfl
  have SP:=SO.trans (bA.trans bY)
  refine ⟨_,rfl,fun c o_ cg=>?_,fun c=>?_⟩
  ·rw [if_pos (of_decide_eq_true c)] at d
   exact ⟨_,s,by rw [d];rfl,gs.le (SP.trans cg),ss,fun w e=>by rw [d] at e;cases e⟩
  ·rw [if_neg (of_decide_eq_false c)] at d
   exact ⟨(((j+1:Nat):Int),_,_,_,_,_,_,_,_,_,_,_,_,_,_,_,_),by dsimp only;omega,by and_intros<;>rfl,next (gs.le SP) sg ss d⟩
 have hp:=q1 p
 have b6:=hp
 obtain ⟨_,_,_,_,_,_,_,_,_,_,_,_,rfl,-⟩:=hp
 refine ⟨_,_,_,_,_,_,_,_,_,_,_,_,_,_,_,rfl,fun h=>by simp [p] at h,fun _ mJ c_=>(NO (n.le (x.trans (KR.trans c_))) (b6.le c_) nz (sl.up (K:=30000) (by omega)) (s1.mono (by omega)) (s2.mono (by omega)) (by omega)).mono ?_⟩
 rintro r lN dp gt
 have q:RQ lN r (mw L M):=gt
 obtain ⟨_,_,_,_,_,_,rfl⟩:=gt.shape
 have st:=Ia nz v E p
 have Gl:=KR.trans (c_.trans dp)
 refine ⟨_,_,_,_,_,_,_,rfl,fun kr cV=>(bN (o.le (Gl.trans cV)) sm.1 sm.2.1 sm.2.2 (by omega)).mono ?_⟩
 rintro r mZ cQ gm
 have VZ:=gm
 obtain ⟨_,_,_,_,_,_,_,_,_,_,_,_,rfl,-⟩:=gm
 have Gm:=Gl.trans (cV.trans cQ)
 refine ⟨_,_,_,_,_,_,_,_,_,_,_,_,_,_,rfl,fun pe dF=>(bN (n.le (x.trans (Gm.trans dF))) sl.1 sl.2.1 sl.2.2 (by omega)).mono ?_⟩
 rintro r tj dq gl
 have Un:=gl
 obtain ⟨_,_,_,_,_,_,_,_,_,_,_,_,rfl,-⟩:=gl
 have W9:=Gm.trans (dF.trans dq)
 refine ⟨_,_,_,_,_,_,_,_,_,_,_,_,_,_,rfl,fun yF gy=>(fy (k:=1000) (VZ.le (dF.trans (dq.trans gy))) (Un.le gy) F9.1 F9.2 hd.1 hd.2 (by omega)).mono ?_⟩
 rintro r uJ fB gc
 have OB:RQ uJ r (cZ M L):=by
  have e:cZ M L=_:=(BS M L).symm
  rw [e];exact gc
 obtain ⟨_,_,_,_,_,_,rfl⟩:=gc.shape
 have W_:=W9.trans (gy.trans fB)
 refine ⟨_,_,_,_,_,_,_,rfl,fun tm iF=>(iy (OB.le iF)).mono ?_⟩
 rintro r yx gT rfl
 have B:=W_.trans (iF.trans gT)
 have HN:lN.Le yx:=(cV.trans cQ).trans ((dF.trans dq).trans ((gy.trans fB).trans (iF.trans gT)))
 refine ⟨_,rfl,fun z W=>Fz W (Uk z) (nF L M s),⟨fun t=>?_,fun t=>?_⟩,?_⟩
 ·have t:0<(cZ M L).num.sign:=of_decide_eq_true t
  refine ⟨fun z _=>z=decide (s.a=true\/s.lo<mw L M),⟨fun m=>⟨true,by and_intros<;>rfl,?_⟩,fun m Ik F=>(lX (q.le (HN.trans F)) (C.le (B.trans F)) st ss.1 (by omega)).mono ?_⟩,?_⟩
  ·exact (decide_eq_true (.inl m)).symm
  ·rintro r Hq mO rfl
   refine ⟨_,rfl,decide (fA (mw L M) s.lo>(0:Int)),by and_intros<;>rfl,?_⟩
   rw [m]
   exact decide_eq_decide.2 ⟨fun h=>.inr (HB.1 h),fun h=>h.elim (fun h=>nomatch h) HB.2⟩
  rintro z JB y rfl
  refine ⟨by trivial,fun c=>⟨(_,_,_,_,_,_,_,_,_,_,_,_,_,_,_,_),by and_intros<;>rfl,?_⟩,fun c=>⟨(_,_,_,_,_,_,_,_,_,_,_,_,_,_,_,_),by and_intros<;>rfl,?_⟩⟩
  ·have e:nF L M s=⟨mw L M,s.hi,false,s.b⟩:=by unfold nF;rw [if_pos t,if_pos (of_decide_eq_true c)]
   rw [e]
   exact TJ rfl rfl (q.le (HN.trans y)) (D.le (B.trans y))
  ·have e:nF L M s=s:=by unfold nF;rw [if_pos t,if_neg (of_decide_eq_false c)]
   rw [e]
   exact gs.le (B.trans y)
 ·have t:¬0<(cZ M L).num.sign:=of_decide_eq_false t
  refine ⟨fun z _=>z=decide (s.b=true\/mw L M<s.hi),⟨fun m=>⟨true,by and_intros<;>rfl,?_⟩,fun m Ik F=>(lX (q.le (HN.trans F)) (D.le (B.trans F)) st ss.2 (by omega)).mono ?_⟩,?_⟩
  ·exact (decide_eq_true (.inl m)).symm
  ·rintro r Hq mO rfl
   refine ⟨_,rfl,decide (fA (mw L M) s.hi<(0:Int)),by and_intros<;>rfl,?_⟩
   rw [m]
   exact decide_eq_decide.2 ⟨fun h=>.inr (oo.1 h),fun h=>h.elim (fun h=>nomatch h) oo.2⟩
  rintro z JB y rfl
  refine ⟨by trivial,fun c=>⟨(_,_,_,_,_,_,_,_,_,_,_,_,_,_,_,_),by and_intros<;>rfl,?_⟩,fun c=>⟨(_,_,_,_,_,_,_,_,_,_,_,_,_,_,_,_),by and_intros<;>rfl,?_⟩⟩
  ·have e:nF L M s=⟨s.lo,mw L M,s.a,false⟩:=by unfold nF;rw [if_neg t,if_pos (of_decide_eq_true c)]
   rw [e]
   exact TJ rfl rfl (C.le (B.trans y)) (q.le (HN.trans y))
  ·have e:nF L M s=s:=by unfold nF;rw [if_neg t,if_neg (of_decide_eq_false c)]
   rw [e]
   exact gs.le (B.trans y)
 rw [AE p] at d
 have kk:=fun w=>Kc (w:=w) nz v E sg ss
 rw [AE p] at kk
 have sz:=Qi nz v E p ss
 generalize nF L M s=s' at *
 clear gs C D
 rintro ⟨G,H,I,J,N,O,P,Q,R,S,T,U,X,Y,Z,ya⟩ Mv AX gs
 dsimp only [Uk] at gs ⊢
 obtain ⟨rfl,rfl,C,D⟩:=rsS gs
 refine ⟨by trivial,fun z _=>z=decide (s'.a=false/\s'.b=false/\s'.hi<=s'.lo),⟨fun m=>⟨fun hb Rn D8=>(lX (C.le D8) (D.le D8) sz.1 sz.2 (by omega)).mono ?_,fun hb=>⟨false,by and_intros<;>rfl,?_⟩⟩,fun m=>⟨false,by and_intros<;>rfl,?_⟩⟩,?_⟩
 ·rintro r UY KP rfl
  rw [Bool.not_eq_true'] at m hb
  refine ⟨_,rfl,decide (fA s'.lo s'.hi≥(0:Int)),by and_intros<;>rfl,decide_eq_decide.2 ⟨fun h=>⟨m,hb,?_⟩,fun h=>?_⟩⟩
  ·refine Rat.not_lt.1 fun g=>?_
   have:=oo.2 g;omega
  ·refine Int.not_lt.1 fun g=>?_
   have:=oo.1 g
   have:=h.2.2
   grind
 ·rw [Bool.not_eq_false'] at hb
  exact (decide_eq_false fun h=>by rw [hb] at h;cases h.2.1).symm
 ·rw [Bool.not_eq_false'] at m
  exact (decide_eq_false fun h=>by rw [m] at h;cases h.1).symm
 rintro z Uh Da rfl
 refine ⟨by trivial,fun c YA Nq=>?_,fun c=>?_⟩
 ·rw [if_pos (of_decide_eq_true c)] at d
  exact ⟨_,s',by rw [d];rfl,gs.le (Da.trans Nq),sz,fun w e=>by rw [d] at e;cases e⟩
 ·rw [if_neg (of_decide_eq_false c)] at d kk
  obtain ⟨k1,k2⟩:=kk _ rfl
  exact ⟨(((j+1:Nat):Int),_,_,_,_,_,_,_,_,_,_,_,_,_,_,_,_),by dsimp only;omega,by and_intros<;>rfl,next (gs.le Da) k1 k2 d⟩
theorem Hk {S:List L3}(hb:∀l∈S,Bd l):∀x∈kM S,Sz 20000 x.1/\Sz 20000 x.2:=fun x d=>by
 rw [C6] at d
 obtain ⟨i,c,e⟩:=List.mem_filterMap.1 d
 rw [List.mem_range] at c
 have f:(i+1)%S.length<S.length:=Nat.mod_lt _ (by omega)
 unfold uG at e
 rw [dP c,dP f] at e
 split at e
 ·cases e
  obtain ⟨a,b⟩:=O7 (hb _ (List.getElem_mem c)).fa (hb _ (List.getElem_mem f)).fa
  exact ⟨a.mono (by omega),b.mono (by omega)⟩
 ·cases e
theorem Tl {b1 b2:Bool}{p1 p2 p3 p4:OA}{n1 c1 n2 c2 n3 c3 n4 c4:Nat}:∀v∈([.bool b1,.slice p1 n1 c1,.slice p2 n2 c2,.bool b2,.slice p3 n3 c3,.slice p4 n4 c4]:List Value),v.oneCell'=true:=fun v a=>by
 simp only [List.mem_cons,List.not_mem_nil,or_false] at a
 rcases a with rfl|rfl|rfl|rfl|rfl|rfl<;>rfl
theorem kY {V:View}{p:OA}{n c:Nat}{S:List L3}(h:cB 6 ck V p n S)(hb:∀l∈S,Bd l)(hn:S.length<=100000) :
  ab prog 30 #[.slice p n c] V fun r V'=>∃q m e,r=.slice q m e/\cB 6 jS V' q m (kM S):=by
 obtain rfl:=h.len
 refine rD p _ c V _ ⟨fun z V'=>∃j:Nat,z.2.2.2=(j:Int)/\j<=S.length/\z.1<=j/\GR 6 jS V' z.1 z.2.1 z.2.2.1 ((List.range j).filterMap (uG S)),fun z=>S.length-z.2.2.2.toNat,⟨(0,0,[],0),by and_intros<;>first|rfl|trivial,0,rfl,Nat.zero_le _,Nat.le_refl _,GR.nil⟩,?_⟩
 rintro ⟨F,z2,vs,z4⟩ V1 G ⟨j,H,AU,Rj,d⟩
 dsimp only at H d Rj
 subst H
 refine ⟨rfl,fun b=>?_,fun b lL bY bk hb=>?_⟩
 ·have b:(j:Int)<S.length:=of_decide_eq_true b
  have o:j<S.length:=by omega
  have w:i64.wrap ((j:Int)+1)=((j+1:Nat):Int):=by rw [ay (by omega)];rfl
  have hm:(((j+1:Nat):Int)).tmod (S.length:Int)=(((j+1)%S.length:Nat):Int):=by rw [Int.ofNat_tmod]
  have x:(j+1)%S.length<S.length:=Nat.mod_lt _ (by omega)
  dsimp only
  rw [w,hm]
  simp only [Int.toNat_natCast]
  have I:=h.le G fun _ _ g=>ck.le g G
  obtain ⟨J,b1,p1,n1,c1,b2,p2,n2,c2,b3,p3,n3,c3,a,ha,a0,a1,a2,a3,a4,a5,K⟩:=i_ I o
  obtain ⟨-,B1,P1,N1,C1,B2,P2,N2,C2,B3,P3,N3,C3,A,hA,A0,A1,A2,A3,A4,A5,N⟩:=i_ I x
  have O:=hb _ (List.getElem_mem o)
  have P:=hb _ (List.getElem_mem x)
  have s:=O.fa
  have t:=P.fa
  have Q:uG S j=if 0<aP S[j] S[(j+1)%S.length] then some (Ed S[j] S[(j+1)%S.length],Ee S[j] S[(j+1)%S.length]) else none:=by
   unfold uG
   rw [dP o,dP x,qj]
  generalize S[j]=L at *
  generalize S[(j+1)%S.length]=M at *
  have R:=eo O
  have T:=eo P
  refine ⟨J,⟨by omega,by omega⟩,b1,p1,n1,c1,b2,p2,n2,c2,b3,p3,n3,c3,a,ha,a0,a1,a2,a3,a4,a5,by omega,J,⟨by omega,by omega⟩,B1,P1,N1,C1,B2,P2,N2,C2,B3,P3,N3,C3,A,hA,A0,A1,A2,A3,A4,A5,fun V2 y=>(bN (K.le y) s.1 s.2.1 s.2.2 (by omega)).mono ?_⟩
  rintro r V3 U W
  have B:=W
  obtain ⟨_,_,_,_,_,_,_,_,_,_,_,_,rfl,-⟩:=W
  refine ⟨_,_,_,_,_,_,_,_,_,_,_,_,_,_,rfl,fun V4 C=>(bN (N.le (y.trans (U.trans C))) t.1 t.2.1 t.2.2 (by omega)).mono ?_⟩
  rintro r V5 X Y
  have D:=Y
  obtain ⟨_,_,_,_,_,_,_,_,_,_,_,_,rfl,-⟩:=Y
  refine ⟨_,_,_,_,_,_,_,_,_,_,_,_,_,_,rfl,fun V6 E=>(fy (k:=1000) (B.le (C.trans (X.trans E))) (D.le E) R.1 R.2 T.1 T.2 (by omega)).mono ?_⟩
  rintro r V7 l7 Z
  have iR:RQ V7 r (aP L M):=by rw [←qj];exact Z
  obtain ⟨_,_,_,_,_,_,rfl⟩:=Z.shape
  refine ⟨_,_,_,_,_,_,_,rfl,fun V8 l8=>(iy (iR.le l8)).mono ?_⟩
  rintro r V9 l9 rfl
  have v:V1.Le V9:=y.trans (U.trans (C.trans (X.trans (E.trans (l7.trans (l8.trans l9))))))
  refine ⟨_,rfl,fun f iI i=>(LG (K.le (v.trans i)) (N.le (v.trans i)) s t (by omega)).mono ?_,fun f=>⟨(F,z2,vs,((j+1:Nat):Int)),by dsimp only;omega,by and_intros<;>first|rfl|trivial,j+1,rfl,o,by dsimp only;omega,?_⟩⟩
  ·have f:0<aP L M:=ai.mP.1 (of_decide_eq_true f)
   rintro r ie bA ⟨u,rfl,-,q1⟩
   have gm:=q1 (by grind)
   have VZ:jS ie u (Ed L M,Ee L M):=gm
   obtain ⟨_,_,_,_,_,_,_,_,_,_,_,_,rfl,-⟩:=gm
   refine ⟨_,_,_,_,_,_,_,_,_,_,_,_,_,_,_,rfl,by omega,d.le,d.cap,rfl,Tl,fun sp c' h1 h2=>⟨(F+1,c',_,((j+1:Nat):Int)),by dsimp only;omega,by and_intros<;>first|rfl|trivial,j+1,rfl,o,by dsimp only;omega,?_⟩⟩
   dsimp only
   rw [rE,Q,if_pos f]
   exact (d.mono (V':=ie) fun _ _ g=>jS.le g (v.trans (i.trans bA))).snoc (a:=(Ed L M,Ee L M)) rfl VZ (by decide) h1 h2
  ·have f:¬0<aP L M:=fun h=>of_decide_eq_false f (ai.mP.2 h)
   dsimp only
   rw [rE,Q,if_neg f,Option.toList_none,List.append_nil]
   exact d.mono fun _ _ g=>jS.le g v
 ·have b:¬(j:Int)<S.length:=of_decide_eq_false b
  obtain rfl:j=S.length:=by omega
  rw [←C6] at d
  obtain rfl:=d.len
  exact ⟨_,_,_,rfl,cB.eZ hb (d.row.le fun _ _ g=>jS.le g bY) (by decide) d.le⟩
theorem yR {V:View}{p:OA}{n c:Nat}{l:List ai.V2}(h:cB 6 jS V p n l)(hsz:∀x∈l,Sz 20000 x.1/\Sz 20000 x.2)(hn:l.length<=100000) :
  ab prog 98 #[.slice p n c] V fun r V'=>RQ V' r (tw l)/\Sz (100000*l.length+4) (tw l):=by
 obtain rfl:=h.len
 have q:∀i,i<l.length->Sz 20000 (l.getD i (0,0)).1/\Sz 20000 (l.getD i (0,0)).2:=fun i e=>by
  rw [dP e]
  exact hsz _ (List.getElem_mem e)
 have step:∀k,k<=l.length->Sz (100000*k+4) (QM l k):=by
  intro k
  induction k with
  | zero=>exact fun _=>JI _ (by omega)
  | succ k ih=>
   intro f
   rw [qZ]
   obtain ⟨s1,s2⟩:=q k (by omega)
   obtain ⟨s3,s4⟩:=q _ (Nat.mod_lt (k+1) (show l.length>0 by omega))
   exact ((ih (by omega)).add ((s1.mul s4).sub (s2.mul s3))).mono (by omega)
 refine yj p _ c V _ ⟨fun z V'=>∃j:Nat,z.1=(j:Int)/\j<=l.length/\RQ V' (.agg #[.bool z.2.1,.slice z.2.2.1 z.2.2.2.1 z.2.2.2.2.1,.slice z.2.2.2.2.2.1 z.2.2.2.2.2.2.1 z.2.2.2.2.2.2.2]) (QM l j),fun z=>l.length-z.1.toNat,⟨(0,_,_,_,_,_,_,_),by and_intros<;>first|rfl|trivial,0,rfl,Nat.zero_le _,TH _⟩,?_⟩
 rintro ⟨z1,zb,zp,zn,zc,zq,zm,ze⟩ V1 s ⟨j,t,D,m⟩
 dsimp only at t m
 subst t
 refine ⟨rfl,fun d=>?_,fun d V6 E=>?_⟩
 ·have d:(j:Int)<l.length:=of_decide_eq_true d
  have e:j<l.length:=by omega
  have w:i64.wrap ((j:Int)+1)=((j+1:Nat):Int):=by rw [ay (by omega)];rfl
  have hm:(((j+1:Nat):Int)).tmod (l.length:Int)=(((j+1)%l.length:Nat):Int):=by rw [Int.ofNat_tmod]
  have f:(j+1)%l.length<l.length:=Nat.mod_lt _ (by omega)
  dsimp only
  rw [w,hm]
  simp only [Int.toNat_natCast]
  have u:=h.le s fun _ _ g=>jS.le g s
  obtain ⟨v,b1,F,G,H,I,J,K,b2,L,M,N,O,P,Q,a,R,U,W,X,Y,Z,a5,gu⟩:=wG jS.shape u e
  obtain ⟨-,B1,P1,N1,C1,P2,N2,C2,B2,P3,N3,C3,P4,N4,C4,b,hb,A0,A1,A2,A3,A4,A5,gw⟩:=wG jS.shape u f
  have y:=qZ l j
  rw [dP e,dP f] at y
  have sj:=step j D
  obtain ⟨s1,s2⟩:=hsz _ (List.getElem_mem e)
  obtain ⟨s3,s4⟩:=hsz _ (List.getElem_mem f)
  generalize l[j]=S at *
  generalize l[(j+1)%l.length]=T at *
  refine ⟨v,⟨by omega,by omega⟩,b1,F,G,H,I,J,K,b2,L,M,N,O,P,Q,a,R,U,W,X,Y,Z,a5,by omega,v,⟨by omega,by omega⟩,B1,P1,N1,C1,P2,N2,C2,B2,P3,N3,C3,P4,N4,C4,b,hb,A0,A1,A2,A3,A4,A5,fun V2 o=>(fy (k:=20000) (RP.le gu o) (RP.le gw o) s1 s2 s3 s4 (by omega)).mono ?_⟩
  rintro r V3 l3 A
  have iR:RQ V3 r (ai.cr S T):=A
  obtain ⟨_,_,_,_,_,_,rfl⟩:=A.shape
  refine ⟨_,_,_,_,_,_,_,rfl,fun V4 B=>(cw (m.le (o.trans (l3.trans B))) (iR.le B) sj ((s1.mul s4).sub (s2.mul s3)) (by omega)).mono ?_⟩
  rintro r V5 l5 C
  have C_:=C
  obtain ⟨_,_,_,_,_,_,rfl⟩:=C.shape
  exact ⟨_,_,_,_,_,_,_,rfl,(((j+1:Nat):Int),_,_,_,_,_,_,_),by dsimp only;omega,by and_intros<;>first|rfl|trivial,j+1,rfl,e,by rw [y];exact C_⟩
 ·have d:¬(j:Int)<l.length:=of_decide_eq_false d
  obtain rfl:j=l.length:=by omega
  exact ⟨m.le E,step l.length (Nat.le_refl _)⟩
theorem BN {V:View}{p:OA}{n c:Nat}{S:List L3}(h:cB 6 ck V p n S)(hb:∀l∈S,Bd l)(hn:S.length<=100000) :
  ab prog 37 #[.slice p n c] V fun r V'=>RQ V' r (tw (kM S)*((2:Int):Rat)⁻¹):=by
 refine zY p n c V _ fun s a=>(kY (h.le a fun _ _ g=>ck.le g a) hb hn).mono ?_
 rintro r V2 t ⟨q,m,e,rfl,g⟩
 have u:=va S
 refine ⟨_,_,_,rfl,fun v b=>(yR (g.le b fun _ _ g=>jS.le g b) (Hk hb) (by omega)).mono ?_⟩
 rintro r w x ⟨d,s4⟩
 have i:=d
 obtain ⟨_,_,_,_,_,_,rfl⟩:=d.shape
 refine ⟨_,_,_,_,_,_,_,rfl,fun y j=>(lZ (i.le j) s4 (by omega)).mono ?_⟩
 rintro r z A f
 have k:=f
 obtain ⟨_,_,_,_,_,_,rfl⟩:=f.shape
 exact ⟨_,_,_,_,_,_,_,rfl,fun B o=>k.le o⟩
def IY (c:List Sd)(p:Rat×Rat):Bool:=c.all fun s=>decide (0<=ar s.1 p.1 p.2)
def Re (c:List Sd)(p:Rat×Rat):Bool:=c.all fun s=>decide (0<ar s.1 p.1 p.2)
theorem tq (p:OA)(m n:Nat):ag (ag p m) n=ag p (m+n):=by
 cases p with
 | none=>rfl
 | some a=>exact congrArg some (pX a m n)
theorem K1 {α:Type}{sz:Nat}{R:View->Value->α->Prop}{V:View}{p:OA}{n c:Nat}{s:α}{r:List α}(h:cB sz R V p n (s::r))(hc:n<=c):cB sz R V (mX p c 1 sz) (n-1) r:=by
 have a:=h.len
 rw [List.length_cons] at a
 refine ⟨by omega,fun i j=>?_⟩
 obtain ⟨b,d,xs,e,f,g⟩:=h.at_ (i+1) (by rw [List.length_cons];omega)
 refine ⟨b,?_,xs,e,f,g⟩
 unfold mX
 rw [if_neg (by omega),tq,←d,Nat.one_mul,Nat.succ_mul,Nat.add_comm]
def wk:List Sd->Rat×Rat
 | []=>(0,0)
 | s::c=>(fm s.1 s.2.bG+jU (fm s.1 s.2.bG,fu s.1 s.2.bG) (ai.iH s.1) (c.map Prod.fst) 1*((2:Int):Rat)⁻¹*(ai.iH s.1).1,fu s.1 s.2.bG+jU (fm s.1 s.2.bG,fu s.1 s.2.bG) (ai.iH s.1) (c.map Prod.fst) 1*((2:Int):Rat)⁻¹*(ai.iH s.1).2)
theorem AJ (p n:ai.V2)(m:L3):∀(r:List L3)(f:Rat),jU p n (r++[m]) f=if ai.nv m n<0 then mq (jU p n r f) (-(ar m p.1 p.2*(ai.nv m n)⁻¹)) else jU p n r f
 | [],f=>rfl
 | a::r,f=>by
  rw [List.cons_append]
  unfold jU
  rw [AJ p n m r]
theorem NA {k:Nat}{x y:Rat}(h:Sz k x)(h':Sz k y):Sz k (mq x y):=by
 rcases (min_le x y).2.2 with e|e<;>rw [e]<;>assumption
set_option maxHeartbeats 1000000 in
theorem BB {V:View}{p:OA}{n c:Nat}{cs:List Sd}(h:cB 17 gW V p n cs)(hcap:n<=c)(hn:cs.length<=100000) :
  ab prog 84 #[.slice p n c] V fun r V'=>oF V' r (wk cs).1 (wk cs).2/\Sz 100000000 (wk cs).1/\Sz 100000000 (wk cs).2:=by
 have hl:=h.len
 refine rq p n c V _ ⟨fun o V1 l1=>?_,fun o=>?_⟩
 ·have o:cs=[]:=List.length_eq_zero_iff.1 (by have:=beq_iff_eq.1 o;omega)
  subst o
  exact ⟨⟨_,_,_,_,_,_,rfl,RR.zero _,RR.zero _⟩,JI _ (by omega),JI _ (by omega)⟩
 cases cs with
 | nil=>rw [hl] at o;cases o
 | cons s r=>
 have hr:=K1 h hcap
 rw [List.length_cons] at hl hn
 obtain ⟨L,a1,a2,a3,a4,a5,a6,a7,a8,a9,b1,b2,b3,b4,b5,b6,a,S,k0,k1,k2,k3,k4,k5,k6,k7,k8,k9,U,W,Y,Z,a0,u,x,hs⟩:=ja h (i:=0) (by rw [List.length_cons];omega)
 obtain ⟨rl,ri,-,-⟩:=hs.both
 have d:=hs.2
 have b0:(s::r)[0]=s:=rfl
 rw [b0] at rl ri d u x
 clear hs
 have Y6:ag (ag p 0) 0=some a:=by rw [tq];simpa using S
 have b7:ag (ag p 0) 9=some (a.add 9):=by
  rw [Nat.zero_mul] at S
  rw [S];rfl
 have l:(ag p 0).isSome=true:=by
  cases p with
  | none=>cases L
  | some _=>rfl
 have at9:∀(i:Nat) v,V.at (a.add (9+i)) v->V.at ((a.add 9).add i) v:=fun i v hv=>by rw [pX];exact hv
 have QI:=CD d.2
 have y:=Cz (d.1.fa.up (show 1000<=200010 by omega)) (QI.mono (show 2*100000+10<=200010 by omega))
 have A:=CA (d.1.fa.up (show 1000<=200010 by omega)) (QI.mono (show 2*100000+10<=200010 by omega))
 have M:Sz 1000 (ai.iH s.1).1:=d.1.fa.1
 have N:Sz 1000 (ai.iH s.1).2:=d.1.fa.2.1
 refine ⟨L,⟨by omega,by omega⟩,l,_,_,_,_,_,_,_,_,_,a,Y6,k0,k1,k2,k3,k4,k5,k6,k7,k8,L,⟨by omega,by omega⟩,l,_,_,_,_,_,_,_,_,a.add 9,b7,at9 0 _ k9,at9 1 _ U,at9 2 _ W,at9 3 _ Y,at9 4 _ Z,at9 5 _ a0,at9 6 _ u,at9 7 _ x,
  L,⟨by omega,by omega⟩,l,_,_,_,_,_,_,_,_,_,a,Y6,k0,k1,k2,k3,k4,k5,k6,k7,k8,fun V2 l2=>(tA (ri.le l2) d.2 (by omega)).mono ?_⟩
 rintro q V3 l3 g3
 have iR:=g3
 obtain ⟨_,_,_,rfl⟩:=g3.shape
 refine ⟨_,_,_,rfl,fun V4 l4=>(SJ (rl.le (l2.trans (l3.trans l4))) (iR.le l4) (k:=200010) (d.1.fa.up (by omega)) (QI.mono (by omega)) (by omega)).mono ?_⟩
 rintro q V5 l5 g5
 have O:=g5
 obtain ⟨_,_,_,_,_,_,rfl,-,-⟩:=g5
 have L5:V.Le V5:=l2.trans (l3.trans (l4.trans l5))
 refine ⟨_,_,_,_,_,_,rfl,fun V6 l6=>(cq (rl.le (L5.trans l6)) d.1.fa.1 d.1.fa.2.1 d.1.fa.2.2 (by omega)).mono ?_⟩
 rintro q V7 l7 g7
 have HH:oF V7 q (ai.iH s.1).1 (ai.iH s.1).2:=g7
 obtain ⟨_,_,_,_,_,_,rfl,-,-⟩:=g7
 refine ⟨_,_,_,_,_,_,rfl,fun V8 l8=>(gY 1 (by decide) (by decide)).mono ?_⟩
 rintro q V9 l9 g9
 have R_:=g9
 obtain ⟨_,_,_,rfl⟩:=g9.shape
 have Xb:V5.Le V9:=l6.trans (l7.trans (l8.trans l9))
 have L9:=L5.trans Xb
 have b8:((1:Int):Rat)=1:=rfl
 refine ⟨_,_,_,rfl,⟨by omega,by omega⟩,fun z V'=>∃j:Nat,z.1=(j:Int)/\j<=r.length/\RR V' (.agg #[.int .i64 z.2.1,.int .i64 z.2.2.1,.pointer z.2.2.2]) (jU (fm s.1 s.2.bG,fu s.1 s.2.bG) (ai.iH s.1) ((r.take j).map Prod.fst) 1)/\Sz 30000000 (jU (fm s.1 s.2.bG,fu s.1 s.2.bG) (ai.iH s.1) ((r.take j).map Prod.fst) 1),fun z=>r.length-z.1.toNat,
  ⟨(0,_,_,_),by and_intros<;>rfl,0,rfl,Nat.zero_le _,R_,fO.mono (by omega)⟩,?_⟩
 rintro ⟨z1,z2,z3,z4⟩ iI m ⟨j,e1,AU,B,t⟩
 dsimp only at e1 B
 subst e1
 have QY:=L9.trans m
 have OR:=Xb.trans m
 have OV:V7.Le iI:=l8.trans (l9.trans m)
 generalize hx:(fm s.1 s.2.bG,fu s.1 s.2.bG)=X at *
 have b9:fm s.1 s.2.bG=X.1:=by rw [←hx]
 have c0:fu s.1 s.2.bG=X.2:=by rw [←hx]
 rw [b9] at y O
 rw [c0] at A O
 refine ⟨rfl,fun e=>?_,fun e Hq mO=>?_⟩
 ·have e:(j:Int)<((n-1:Nat):Int):=of_decide_eq_true e
  have P:j<r.length:=by omega
  have w:i64.wrap ((j:Int)+1)=((j+1:Nat):Int):=by rw [ay (by omega)];rfl
  dsimp only
  rw [Int.toNat_natCast,w]
  obtain ⟨c1,d2,YZ,d3,d4,Y0,d5,d6,d7,d8,d9,e0,e2,e3,e4,e5,a',c2,m0,m1,m2,m3,m4,m5,m6,m7,m8,m9,c3,c4,c5,c6,c7,c8,c9,C⟩:=ja (hr.le QY fun _ _ g=>gW.le g QY) P
  obtain ⟨D,-,-,-⟩:=C.both
  have b:=C.2.1
  have E:jU X (ai.iH s.1) ((r.take (j+1)).map Prod.fst) 1=if ai.nv r[j].1 (ai.iH s.1)<0 then mq (jU X (ai.iH s.1) ((r.take j).map Prod.fst) 1) (-(ar r[j].1 X.1 X.2*(ai.nv r[j].1 (ai.iH s.1))⁻¹)) else jU X (ai.iH s.1) ((r.take j).map Prod.fst) 1:=by
   rw [List.take_add_one,List.getElem?_eq_getElem P,List.map_append]
   exact AJ _ _ _ _ _
  generalize jU X (ai.iH s.1) ((r.take j).map Prod.fst) 1=F at *
  generalize r[j]=T at *
  have XX:Sz 5000 (ai.nv T.1 (ai.iH s.1)):=((b.fa.1.mul M).add (b.fa.2.1.mul N)).mono (by omega)
  have G:Sz 10000000 (ar T.1 X.1 X.2):=(((b.fa.1.mul y).add (b.fa.2.1.mul A)).add b.fa.2.2).mono (by omega)
  refine ⟨c1,⟨by omega,by omega⟩,_,_,_,_,_,_,_,_,_,_,_,_,_,_,_,_,_,a',c2,m0,m1,m2,m3,m4,m5,m6,m7,m8,m9,c3,c4,c5,c6,c7,c8,c9,fun ie bA=>(cq (D.le bA) b.fa.1 b.fa.2.1 b.fa.2.2 (by omega)).mono ?_⟩
  rintro q lL bY H
  have Vt:=H
  obtain ⟨_,_,_,_,_,_,rfl,-,-⟩:=H
  refine ⟨_,_,_,_,_,_,rfl,fun o_ cg=>(iU (Vt.le cg) (HH.le (OV.trans (bA.trans (bY.trans cg)))) b.fa.1 b.fa.2.1 M N (by omega)).mono ?_⟩
  rintro q mJ c_ d0
  have PI:RR mJ q (ai.nv T.1 (ai.iH s.1)):=d0
  obtain ⟨_,_,_,rfl⟩:=PI.shape
  refine ⟨_,_,_,rfl,fun lN dp=>(eF (PI.le dp) XX (by omega)).mono ?_⟩
  rintro q kr cV rfl
  have Q:iI.Le kr:=bA.trans (bY.trans (cg.trans (c_.trans (dp.trans cV))))
  refine ⟨_,rfl,fun f mZ R=>(jt (k:=5000000) (D.le (Q.trans R)) (O.le (OR.trans (Q.trans R))) (b.fa.1.mono (by omega)) (b.fa.2.1.mono (by omega)) (b.fa.2.2.mono (by omega)) (y.mono (by omega)) (A.mono (by omega)) (by omega)).mono ?_,fun f=>⟨(((j+1:Nat):Int),z2,z3,z4),by dsimp only;omega,by and_intros<;>rfl,j+1,rfl,P,?_,?_⟩⟩
  ·have f:ai.nv T.1 (ai.iH s.1)<0:=ai.xg.1 (of_decide_eq_true f)
   rw [if_pos f] at E
   rintro q pe dF d1
   have R3:RR pe q (ar T.1 X.1 X.2):=d1
   obtain ⟨_,_,_,rfl⟩:=R3.shape
   refine ⟨_,_,_,rfl,fun tj dq=>(og (R3.le dq) (PI.le (dp.trans (cV.trans (R.trans (dF.trans dq))))) G XX (by omega)).mono ?_⟩
   rintro q yF gy I
   have Vx:=I
   obtain ⟨_,_,_,rfl⟩:=I.shape
   have XY:=G.mul (cP XX)
   refine ⟨_,_,_,rfl,fun uJ fB=>(oe (Vx.le fB) XY (by omega)).mono ?_⟩
   rintro q tm iF J
   have Vy:=J
   obtain ⟨_,_,_,rfl⟩:=J.shape
   refine ⟨_,_,_,rfl,fun yx gT=>(vD (B.le (Q.trans (R.trans (dF.trans (dq.trans (gy.trans (fB.trans (iF.trans gT)))))))) (Vy.le gT) t (XY.neg.mono (by omega)) (by omega)).mono ?_⟩
   rintro q Ik nE K
   have Vz:=K
   obtain ⟨_,_,_,rfl⟩:=K.shape
   refine ⟨_,_,_,rfl,(((j+1:Nat):Int),_,_,_),by dsimp only;omega,by and_intros<;>rfl,j+1,rfl,P,?_,?_⟩
   ·rw [E];exact Vz
   ·rw [E];exact NA t (XY.neg.mono (by omega))
  ·have f:¬ai.nv T.1 (ai.iH s.1)<0:=fun h=>of_decide_eq_false f (ai.xg.2 h)
   rw [E,if_neg f]
   exact B.le Q
  ·have f:¬ai.nv T.1 (ai.iH s.1)<0:=fun h=>of_decide_eq_false f (ai.xg.2 h)
   rw [E,if_neg f]
   exact t
 ·have e:¬(j:Int)<((n-1:Nat):Int):=of_decide_eq_false e
  obtain rfl:j=r.length:=by omega
  rw [List.take_length] at B t
  have ei:wk (s::r)=(X.1+jU X (ai.iH s.1) (r.map Prod.fst) 1*((2:Int):Rat)⁻¹*(ai.iH s.1).1,X.2+jU X (ai.iH s.1) (r.map Prod.fst) 1*((2:Int):Rat)⁻¹*(ai.iH s.1).2):=by
   subst hx
   rfl
  rw [ei]
  generalize jU X (ai.iH s.1) (r.map Prod.fst) 1=F at *
  refine (vA (B.le mO) t (by omega)).mono ?_
  rintro q JB mo R4
  have VA:=R4
  obtain ⟨_,_,_,rfl⟩:=R4.shape
  have XW:=t.mul (cP qV)
  refine ⟨_,_,_,rfl,fun MI kA=>(ju (k:=40000000) (HH.le (OV.trans (mO.trans (mo.trans kA)))) (VA.le kA) (M.mono (by omega)) (N.mono (by omega)) (XW.mono (by omega)) (by omega)).mono ?_⟩
  rintro q MJ uQ R5
  have VB:oF MJ q (F*((2:Int):Rat)⁻¹*(ai.iH s.1).1) (F*((2:Int):Rat)⁻¹*(ai.iH s.1).2):=by
   rw [Rat.mul_comm (F*((2:Int):Rat)⁻¹) (ai.iH s.1).1,Rat.mul_comm (F*((2:Int):Rat)⁻¹) (ai.iH s.1).2]
   exact R5
  obtain ⟨_,_,_,_,_,_,rfl,-,-⟩:=R5
  have t1:=XW.mul M
  have t2:=XW.mul N
  refine ⟨_,_,_,_,_,_,rfl,fun Q2 yA=>(qe (k:=40000000) (O.le (OR.trans (mO.trans (mo.trans (kA.trans (uQ.trans yA)))))) (VB.le yA) (y.mono (by omega)) (A.mono (by omega)) (t1.mono (by omega)) (t2.mono (by omega)) (by omega)).mono ?_⟩
  rintro q Mv AX R6
  have VE:=R6
  obtain ⟨_,_,_,_,_,_,rfl,-,-⟩:=R6
  exact ⟨_,_,_,_,_,_,rfl,fun Rn D8=>⟨VE.le D8,(y.add t1).mono (by omega),(A.add t2).mono (by omega)⟩⟩
def MV (cs:List Sd)(x:Rat×Rat):Int:=if IY cs x=true then (if Re cs x=true then 2 else 1) else 0
theorem nf {V:View}{p:OA}{n c:Nat}{ls:List L3}(h:cB 6 rH V p n ls)(hb:∀l∈ls,Bd l){yi ye yu:Value}(E:Er V yi ye yu) :
  ab prog 26 #[.agg #[.slice p n c]] V fun r V'=>Fs ls (r=.tuple #[.agg #[.bool false,.slice none 0 0,.slice none 0 0,.bool false,.slice none 0 0,.slice none 0 0],yi]) (r=.tuple #[.agg #[.bool false,.slice none 0 0,.slice none 0 0,.bool false,.slice none 0 0,.slice none 0 0],ye])
   fun cs=>∃w,r=.tuple #[w,.nilIface]/\Hn V' w (wk cs).1 (wk cs).2/\Sz 100000000 (wk cs).1/\Sz 100000000 (wk cs).2:=by
 refine uh p n c V _ fun z d=>(fw (h.le d fun _ _ g=>rH.le g d) hb (E.le d)).mono ?_
 rintro r V2 A (⟨b,rfl⟩|⟨b,f,rfl⟩|⟨b,cs,f,⟨q,m,e,rfl,k,hm⟩,B,o⟩)
 ·obtain ⟨i1,i2⟩:=oR E.si
  exact ⟨_,_,_,_,rfl,i1,fun _ s t=>.inl ⟨b,rfl⟩,fun a=>by rw [i2] at a;cases a⟩
 ·obtain ⟨i1,i2⟩:=oR E.se
  exact ⟨_,_,_,_,rfl,i1,fun _ s t=>.inr (.inl ⟨b,f,rfl⟩),fun a=>by rw [i2] at a;cases a⟩
 ·refine ⟨_,_,_,_,rfl,fL.1,(fun a=>by cases a),fun _ C i=>(BB (k.le i fun _ _ g=>gW.le g i) hm o).mono ?_⟩
  rintro r D F ⟨g,t1,t2⟩
  have u:=g
  obtain ⟨_,_,_,_,_,_,rfl,-,-⟩:=g
  refine ⟨_,_,_,_,_,_,rfl,fun G v=>(qc (u.le v) t1 t2 (by omega)).mono ?_⟩
  rintro r H I j
  have x:=j
  obtain ⟨_,_,_,_,_,_,_,_,_,_,_,_,_,_,rfl,-⟩:=j
  exact ⟨_,_,_,_,_,_,_,_,_,_,_,_,_,_,rfl,fun J y=>.inr (.inr ⟨b,cs,f,_,rfl,x.le y,t1,t2⟩)⟩
end Go.Proofs.Tryz
namespace Go.Proofs.Tryz
open Go.bM
set_option maxRecDepth 100000
end Go.Proofs.Tryz
namespace Go.Proofs.Tryz
open Go.bM Go.fR
theorem QA {ls:List L3}(hk:∀m∈ls,dH m=true):∀m∈ls.reverse,dH m=true:=fun m hm=>hk m (List.mem_reverse.1 hm)
theorem JT (c:List Sd):oG c=true↔c≠[]/\∀s∈c,s.2.a=false/\s.2.b=false:=by
 unfold oG
 rw [Bool.and_eq_true,decide_eq_true_eq,List.all_eq_true]
 simp
end Go.Proofs.Tryz
