import Derived.Test.YtnnbfoejafcdlaaGreatDoorD15
import Derived.Test.YtnnbfoejafcdlaaGreatDoorD12
import Derived.Test.YtnnbfoejafcdlaaGreatDoorD13
import Derived.Test.YtnnbfoejafcdlaaGreatDoorD14
import Derived.Test.YtnnbfoejafcdlaaGreatDoorD7
import Derived.Test.YtnnbfoejafcdlaaGreatDoorD8
import Derived.Test.YtnnbfoejafcdlaaGreatDoorD9
import Derived.Test.YtnnbfoejafcdlaaGreatDoorD5
set_option linter.unusedVariables false
open Go.IntKind (i64 u64 u32)
namespace Go.Proofs.Tryz
open Go.bF Go.eK
theorem EH {V:View}{v:Value}{l:L3}(h:sW V v l)(hb:Bd l):ab prog 135 #[v] V fun r V'=>nY V' r (ah.aq l).1 (ah.aq l).2:=kd h hb.rj.1 hb.rj.2.1 hb.rj.2.2 (by omega)
theorem lO {l:L3}(hb:Bd l):Sz 1000 (ah.aq l).1/\Sz 1000 (ah.aq l).2:=⟨hb.rj.2.1,hb.rj.1.neg⟩
theorem Et {V:View}{v lv:Value}{s:Sd}{l:L3}(h:fL V v s)(hl:sW V lv l)(hb:Bd l):ab prog 162 #[v,lv] V fun r V'=>r=.int .i64 (ah.ee (ah.aq s.1) (ah.aq l)):=by
 have hl0:=hl
 obtain ⟨_,_,_,_,_,_,_,_,_,_,_,_,_,_,_,rfl⟩:=h.shape
 obtain ⟨rl,ri,-,-⟩:=h.both
 have sd:=h.2.1
 obtain ⟨_,_,_,_,_,_,_,_,_,rfl,-,-,-⟩:=hl
 refine nP _ _ _ _ _ _ _ _ _ _ _ _ _ _ _ _ _ _ _ _ _ _ _ _ _ _ V _ fun V1 l1=>(EH (rl.le l1) sd).mono ?_
 rintro r V2 l2 g
 have g0:=g
 obtain ⟨_,_,_,_,_,_,rfl,-,-⟩:=g
 refine ⟨_,_,_,_,_,_,rfl,fun V3 l3=>(EH (hl0.le (l1.trans (l2.trans l3))) hb).mono ?_⟩
 rintro r V4 l4 g'
 have g0':=g'
 obtain ⟨_,_,_,_,_,_,rfl,-,-⟩:=g'
 refine ⟨_,_,_,_,_,_,rfl,fun V5 l5=>(AR (g0.le (l3.trans (l4.trans l5))) (g0'.le l5) (lO sd).1 (lO sd).2 (lO hb).1 (lO hb).2 (by omega)).mono ?_⟩
 rintro r V6 l6 rfl
 exact ⟨_,rfl,fun V7 l7=>rfl⟩
theorem FL {i j:Nat}(hi:i<=1000000)(hj:j<=1000000):i64.wrap ((u64.wrap (i64.wrap ((i:Int)+(j:Int)))).fdiv (2^1))=(((i+j) / 2:Nat):Int):=by
 have e1:i64.wrap ((i:Int)+(j:Int))=(i:Int)+(j:Int):=ay (by omega)
 have e2:u64.wrap ((i:Int)+(j:Int))=(i:Int)+(j:Int):=aM (by omega)
 have:((i:Int)+(j:Int)).fdiv (2^1)=(((i+j) / 2:Nat):Int):=by
  rw [Int.fdiv_eq_ediv_of_nonneg _ (by decide)]
  omega
 rw [e1,e2,this,ay (by omega)]
theorem Fj {V:View}{lb n c:Nat}{vs:List Value}{r:List Sd}{lv:Value}{l:L3}(hw:V.w.heap[lb]?=some (.cells vs.toArray 211 (0,0)))(hx:V.X lb)(hr:Row 17 fL V vs r)(hn:n=r.length)(hs:n<=1000000)(hl:sW V lv l)(hb:Bd l)
  (jA:r.Pairwise fun s u=>ah.ee (ah.aq s.1) (ah.aq u.1)<0) :
  ab prog 161 #[.slice (some ⟨lb,0,none⟩) n c,lv,.func (.func 162) #[] #[]] V fun q V'=>∃(i:Nat)(b:Bool),q=.tuple #[.int .i64 i,.bool b]/\i<=n/\(∀v:Sp,iQ (l,v) r=r.take i++(l,v)::r.drop i) /\
   V'.w.heap[lb]?=some (.cells vs.toArray 211 (0,0)):=by
 have hl0:=hl
 subst hn
 obtain ⟨_,_,_,_,_,_,_,_,_,rfl,-,-,-⟩:=hl
 refine iG lb _ c vs _ _ _ _ _ _ _ _ _ V _ hw hx ⟨fun z V'=>∃i j:Nat,z.1=(i:Int)/\z.2=(j:Int)/\Bs r l i j,fun z=>z.2.toNat-z.1.toNat,⟨(0,(r.length:Int)),by and_intros<;>rfl,0,r.length,rfl,rfl,Bs.start r l⟩,?_⟩
 rintro ⟨z1,z2⟩ V1 l1 ⟨i,j,e1,e2,bs⟩
 dsimp only at e1 e2
 subst e1 e2
 have ble:=bs.le
 have XH:=bs.len
 have hr1:=hr.le (V':=V1) fun _ _ g=>fL.le g l1
 refine ⟨rfl,fun hlt=>?_,fun hlt=>?_⟩
 ·have hlt:(i:Int)<(j:Int):=of_decide_eq_true hlt
  dsimp only
  rw [FL (by omega) (by omega)]
  have hlj:(i+j) / 2<j:=by omega
  have VS:i<=(i+j) / 2:=by omega
  generalize (i+j) / 2=h at *
  have QU:h<r.length:=by omega
  have w:i64.wrap ((h:Int)+1)=((h+1:Nat):Int):=by rw [ay (by omega)];rfl
  rw [Int.toNat_natCast,w,Nat.zero_add]
  obtain ⟨a1,a2,a3,a4,a5,a6,a7,a8,a9,b1,b2,b3,b4,b5,b6,fm,Nb,hs1⟩:=EV hr1 QU
  refine ⟨by omega,⟨by omega,by omega⟩,_,_,_,_,_,_,_,_,_,_,_,_,_,_,_,_,_,⟨fm,Nb⟩,fun V2 l2=>(Et (hs1.le l2) (hl0.le (l1.trans l2)) hb).mono ?_⟩
  rintro q V3 l3 rfl
  refine ⟨_,rfl,fun hc=>⟨(((h+1:Nat):Int),(j:Int)),by dsimp only;omega,by and_intros<;>rfl,h+1,j,rfl,rfl,bs.up jA hlj QU (of_decide_eq_true hc)⟩,fun hc=>⟨((i:Int),(h:Int)),by dsimp only;omega,by and_intros<;>rfl,i,h,rfl,rfl,bs.down VS QU (of_decide_eq_false hc)⟩⟩
 ·have hlt:¬(i:Int)<(j:Int):=of_decide_eq_false hlt
  obtain rfl:i=j:=by omega
  dsimp only
  refine ⟨fun hin=>?_,fun hin V7 l7 hw7=>⟨i,false,rfl,by omega,fun v=>bs.done v,hw7⟩⟩
  have hin:(i:Int)<(r.length:Int):=of_decide_eq_true hin
  have hil:i<r.length:=by omega
  rw [Int.toNat_natCast,Nat.zero_add]
  obtain ⟨a1,a2,a3,a4,a5,a6,a7,a8,a9,b1,b2,b3,b4,b5,b6,fm,Nb,hs1⟩:=EV hr1 hil
  refine ⟨⟨by omega,by omega⟩,_,_,_,_,_,_,_,_,_,_,_,_,_,_,_,_,_,⟨fm,Nb⟩,fun V4 l4=>(Et (hs1.le l4) (hl0.le (l1.trans l4)) hb).mono ?_⟩
  rintro q V5 l5 rfl
  exact ⟨_,rfl,fun V6 l6 Wg=>⟨i,_,rfl,by omega,fun v=>bs.done v,Wg⟩⟩
theorem oQ {V V':View}{P:Prop}{b:Nat}(l:V.Le V')(h:P->V.w.heap.size<=b\/V.H b):V.Le (V'.shut.iw P b):=fun x o hx=>by
 have h1:=l x o hx
 refine ⟨fun hh=>hh.elim h1.1 ?_,h1.2⟩
 rintro ⟨hp,rfl,-⟩
 rcases h hp with h|h
 ·have:=(Array.getElem?_eq_some_iff.1 hx.2).1
  omega
 ·exact hx.1 h
theorem FA {c:List Sd}{l:L3}{i:Nat}(hi:i<c.length):iO (c.take (i+1)) l=iO (c.take i) l++if cH c[i].1 c[i].2 l=true then [(c[i].1,cq c[i].1 c[i].2 l)] else []:=by
 unfold iO
 rw [List.take_add_one,List.getElem?_eq_getElem hi,List.filterMap_append]
 congr 1
 show List.filterMap _ [c[i]]=_
 by_cases h:cH c[i].1 c[i].2 l=true
 ·simp [h]
 ·simp [h]
theorem tN (c:List Sd)(l:L3):(iO c l).length<=c.length:=List.length_filterMap_le ..
theorem ns {c:List Sd}{l:L3}{v:Sp}(h:bD c l aA=some v):bo c l=some (iQ (l,v) (iO c l)):=by unfold bo;rw [h]
theorem nr {c:List Sd}{l:L3}(h:bD c l aA=none):bo c l=if 0<cV c l then some c else none:=by unfold bo;rw [h]
set_option maxHeartbeats 1000000 in
theorem qK {V:View}{cp:OA}{cn cc:Nat}{c:List Sd}{lv:Value}{l:L3}(h:cP 17 fL V cp cn c)(hl:sW V lv l)(hb:Bd l)(hn:c.length<=100000)(jA:c.Pairwise fun s u=>ah.ee (ah.aq s.1) (ah.aq u.1)<0) :
  ab prog 102 #[.slice cp cn cc,lv] V fun r V'=>∃q m e,r=.tuple #[.slice q m e,.bool (bo c l).isSome]/\(∀c',bo c l=some c'->cP 17 fL V' q m c'/\(cn<=cc->m<=e)):=by
 have hl0:=hl
 have h0:=h
 obtain rfl:=h.len
 obtain ⟨_,_,_,_,_,_,_,_,_,rfl,-,-,-⟩:=hl
 refine qz cp _ cc _ _ _ _ _ _ _ _ _ V _ fun V1 l1=>(qL (h.le l1 fun _ _ g=>fL.le g l1) (hl0.le l1) hb (by omega)).mono ?_
 rintro r V2 l2 ⟨w,rfl,gv,sv⟩
 have Ty:=gv
 obtain ⟨_,_,_,_,_,_,rfl,-,-⟩:=gv
 have L2:=l1.trans l2
 refine ⟨_,_,_,_,_,_,_,_,_,rfl,fun hp V3 l3=>(ou (h0.le (L2.trans l3) fun _ _ g=>fL.le g (L2.trans l3)) (hl0.le (L2.trans l3)) hb (by omega)).mono ?_,fun hp=>?_⟩
 ·have hp:bD c l aA=none:=by simpa using hp
  rintro r V4 l4 rfl
  have e1:FZ c l=cV c l:=by unfold FZ;rw [hp];rfl
  have e2:=nr hp
  refine ⟨_,rfl,fun V5 l5=>⟨cp,c.length,cc,?_,fun c' e=>?_⟩⟩
  ·rw [e1,e2]
   by_cases hc:0<cV c l
   ·rw [if_pos hc,decide_eq_true hc];rfl
   ·rw [if_neg hc,decide_eq_false hc];rfl
  ·rw [e2] at e
   split at e
   ·cases e
    have L5:=L2.trans (l3.trans (l4.trans l5))
    exact ⟨h0.le L5 fun _ _ g=>fL.le g L5,id⟩
   ·cases e
 have hp:(bD c l aA).isSome=true:=by simpa using hp
 obtain ⟨v,ev⟩:=Option.isSome_iff_exists.1 hp
 rw [ev] at Ty sv ⊢
 have e2:=ns ev
 have w1:i64.wrap ((c.length:Int)+1)=((c.length+1:Nat):Int):=by rw [ay (by omega)];rfl
 rw [w1,Int.toNat_natCast]
 refine ⟨by omega,by omega,by omega,fun z V'=>∃i:Nat,z.2.2.2=(i:Int)/\i<=c.length/\GR 17 fL V' z.1 z.2.1 z.2.2.1 (iO (c.take i) l)/\z.2.1≠0,fun z=>c.length-z.2.2.2.toNat,
  ⟨(0,c.length+1,nX (c.length+1) [.int .i64 0,.int .i64 0,.pointer none,.int .i64 0,.int .i64 0,.pointer none,.int .i64 0,.int .i64 0,.pointer none,.int .i64 0,.int .i64 0,.pointer none,.int .i64 0,.int .i64 0,.pointer none,.bool false,.bool false],0),by and_intros<;>first|rfl|omega,0,rfl,Nat.zero_le _,⟨rfl,Nat.zero_le _,?_,Row.nil⟩,by dsimp only;omega⟩,?_⟩
 ·show _<=(List.replicate (c.length+1) _).flatten.length
  rw [List.length_flatten,List.map_replicate,List.sum_replicate_nat]
  exact Nat.le_refl _
 rintro ⟨z1,z2,vs,z4⟩ V6 l6 ⟨i,e4,TV,hg,hc0⟩
 dsimp only at e4 hg hc0
 subst e4
 have L6:=L2.trans l6
 have gl:=hg.len
 have QH:=hg.le
 have Hg:=hg.cap
 try dsimp only at gl QH Hg
 have Tu:=tN (c.take i) l
 rw [List.length_take] at Tu
 refine ⟨rfl,fun hlt=>?_,fun hlt=>⟨fun hv0=>?_,fun hv0 pF fk bk g1 g2=>?_⟩⟩
 ·have hlt:(i:Int)<c.length:=of_decide_eq_true hlt
  have hi':i<c.length:=by omega
  have w:i64.wrap ((i:Int)+1)=((i+1:Nat):Int):=by rw [ay (by omega)];rfl
  dsimp only
  rw [Int.toNat_natCast,w]
  obtain ⟨ps,a1,a2,a3,a4,a5,a6,a7,a8,a9,b1,b2,b3,b4,b5,b6,a,ha,k0,k1,k2,k3,k4,k5,k6,k7,k8,k9,k10,k11,k12,k13,k14,k15,k16,hr⟩:=ku (h0.le L6 fun _ _ g=>fL.le g L6) hi'
  obtain ⟨rl,ri,-,-⟩:=hr.both
  have sd:=hr.2
  have ct:=FA (l:=l) hi'
  generalize c[i]=S at *
  refine ⟨ps,⟨by omega,by omega⟩,_,_,_,_,_,_,_,_,_,_,_,_,_,_,_,_,_,a,ha,k0,k1,k2,k3,k4,k5,k6,k7,k8,k9,k10,k11,k12,k13,k14,k15,k16,fun V7 l7=>(AP (rl.le l7) (ri.le l7) (hl0.le (L6.trans l7)) (k:=100000) (sd.1.rj.up (by omega)) sd.2 (hb.rj.up (by omega)) (by omega)).mono ?_⟩
  rintro r V8 l8 ⟨w8,rfl,g⟩
  have g0:=g
  obtain ⟨_,_,_,_,_,_,rfl,-,-⟩:=g
  have TL:=hg.mono (V':=V8) fun _ _ g=>fL.le g (l7.trans l8)
  refine ⟨_,_,_,_,_,_,_,_,_,rfl,fun hf=>⟨by omega,QH,Hg,rfl,Ia,fun sp c' h1 h2=>⟨(z1+1,c',_,((i+1:Nat):Int)),by dsimp only;omega,by and_intros<;>rfl,i+1,rfl,hi',?_,by dsimp only;omega⟩⟩,fun hf=>⟨(z1,z2,vs,((i+1:Nat):Int)),by dsimp only;omega,by and_intros<;>rfl,i+1,rfl,hi',?_,hc0⟩⟩
  ·have hf:cH S.1 S.2 l=true:=hf
   dsimp only
   rw [ct,if_pos hf]
   exact TL.snoc (a:=(S.1,cq S.1 S.2 l)) rfl ⟨⟨_,_,_,_,_,_,_,_,_,_,_,_,_,_,_,rfl,rl.le (l7.trans l8),g0⟩,sd.1,E6 sd.1.rj hb.rj sd.2 (by omega)⟩ (by decide) h1 h2
  ·have hf:¬cH S.1 S.2 l=true:=by rw [show cH S.1 S.2 l=false from hf];exact Bool.false_ne_true
   dsimp only
   rw [ct,if_neg hf,List.append_nil]
   exact TL
 ·have hv0:vs=[]:=hv0
  rw [hv0] at Hg
  simp at Hg
  omega
 have hlt:¬(i:Int)<c.length:=of_decide_eq_false hlt
 obtain rfl:i=c.length:=by omega
 rw [List.take_length] at hg gl
 have Tu:=tN c l
 have hv0:vs≠[]:=hv0
 have PB:∀b,mA b z2=some ⟨b,0,none⟩:=fun b=>by unfold mA;rw [if_neg hc0]
 dsimp only
 rw [PB]
 have yE:=L6.trans fk
 refine (Fj (V:=pF.bg [vb vs pF.w.heap.size bk]) (r:=iO c l) (l:=l) (g1 hv0) ⟨by simp [KY hv0],g2 hv0⟩ (hg.row.le fun _ _ g=>fL.le g fun b o h=>fk b o h) gl (by omega) (sW.le (V:=V) (V':=pF.bg _) hl0 fun b o h=>yE b o h) hb (A3 jA)).mono ?_
 rintro r n_ eZ ⟨at_,fb,rfl,hat,hins,e5⟩
 refine ⟨_,_,rfl,hv0,vs,hv0,e5,fun oa eF bk1 bk2 k1 k2 k3 k4 k5=>?_⟩
 rw [PB]
 have l146:pF.Le oa:=fun b o h=>eF b o (eZ b o h)
 have hvw:oa.w.heap.size>bk1:=(Array.getElem?_eq_some_iff.1 (k1 hv0)).1
 have LG:Row 17 fL oa vs (iO c l):=hg.row.le fun _ _ g=>fL.le g (fk.trans l146)
 have hone:∀u∈(vs.take (z1*17)).drop (at_*17),u.oneCell'=true:=fun u hu=>by
  obtain ⟨m,hm,e⟩:=List.mem_iff_getElem.1 (List.mem_of_mem_drop hu)
  have hm':m<(iO c l).length*17:=by rw [List.length_take,gl] at hm;omega
  have:=List.getElem?_eq_getElem hm
  rw [e,List.getElem?_take,if_pos (by rw [gl];exact hm')] at this
  exact oZ hg.row (by decide) (fun xs _=>Kd xs) hm' this
 refine (GZ (V:=oa.bg [vb vs oa.w.heap.size bk1,bk2]) (ob:=bk1) (vb:=bk2) (n:=z1) (c:=z2) (i:=at_) (vs:=vs) (xs:=[_,_,_,_,_,_,_,_,_,_,_,_,_,_,_,_,_]) (k1 hv0) ⟨by simp [KY hv0],k2 hv0⟩ k3 (k5 hv0) hat QH (by omega) Hg rfl hone Ia).mono ?_
 rintro r pH ew ⟨q,c',sp,rfl,f1,f2,f3,f4,f5⟩
 have f2':oa.w.heap.size<=q\/(vs≠[]/\q=bk1):=f2.imp id fun e=>⟨hv0,e⟩
 refine ⟨q,_,fun _=>f1,fun _=>f2',some ⟨q,0,none⟩,z1+1,c',?_,_,_,_,_,_,_,_,_,_,_,_,_,_,_,_,_,_,f5,fun sE fo U3 m1=>⟨mA U3 c',z1+1,c',?_,fun c'' e=>?_⟩⟩
 ·unfold mA;rw [if_neg (by omega)]
 ·rw [e2];rfl
 ·rw [e2] at e
  obtain rfl:=Option.some.inj e
  have HE:oa.Le sE:=fun b o hx=>fo b o (oQ (V:=oa.bg _) (V':=pH) (P:=_) (b:=q) ew (fun _=>f2.elim .inl fun e=>.inr (by rw [e];exact k2 hv0)) b o hx)
  have hR:=DO (sp:=sp) (LG.le fun _ _ g=>fL.le g HE) (k:=at_) (by omega) (xs:=[_,_,_,_,_,_,_,_,_,_,_,_,_,_,_,_,_]) (a:=(l,v)) rfl ⟨⟨_,_,_,_,_,_,_,_,_,_,_,_,_,_,_,rfl,hl0.le (yE.trans (l146.trans HE)),Ty.le (l6.trans (fk.trans (l146.trans HE)))⟩,hb,sv⟩ (by decide)
  rw [hins v]
  have hlen:z1+1=((iO c l).take at_++(l,v)::(iO c l).drop at_).length:=by
   rw [List.length_append,List.length_cons,List.length_take,List.length_drop];omega
  rw [hlen]
  rw [←gl] at hR
  exact ⟨cP.fE m1 hR (by decide) (by rw [←hlen];exact f3),fun _=>by rw [←hlen];exact f3⟩
def CO (k:Nat)(V:View)(v:Value)(c:Rat×Rat):Prop:=nY V v c.1 c.2/\Sz k c.1/\Sz k c.2
theorem CO.le {k:Nat}{V V':View}{v:Value}{c:Rat×Rat}(h:CO k V v c)(l:V.Le V'):CO k V' v c:=⟨h.1.le l,h.2⟩
theorem On {a b:Int}{p:OA}{c d:Int}{q:OA}:∀v∈([.int .i64 a,.int .i64 b,.pointer p,.int .i64 c,.int .i64 d,.pointer q]:List Value),v.oneCell'=true:=by
 intro v hm
 simp only [List.mem_cons,List.not_mem_nil,or_false] at hm
 rcases hm with rfl|rfl|rfl|rfl|rfl|rfl<;>rfl
theorem oR {k:Nat}{V:View}{p:OA}{n:Nat}{al:List (Rat×Rat)}(h:cP 6 (CO k) V p n al){i:Nat}(hi:i<al.length) :
  p.isSome=true/\∃(x y:Int)(q:OA)(x' y':Int)(q':OA)(a:Addr),ai p (i*6)=some a/\V.at (a.add 0) (.int .i64 x)/\V.at (a.add 1) (.int .i64 y)/\V.at (a.add 2) (.pointer q)/\V.at (a.add 3) (.int .i64 x')/\V.at (a.add 4) (.int .i64 y')/\V.at (a.add 5) (.pointer q') /\
   CO k V (.agg #[.int .i64 x,.int .i64 y,.pointer q,.int .i64 x',.int .i64 y',.pointer q']) al[i]:=by
 obtain ⟨ad,h0,xs,h1,h2,h3⟩:=h.at_ i hi
 have h20:=h2
 obtain ⟨⟨x,y,q,x',y',q',e,-⟩,-⟩:=h2
 have e:=congrArg Array.toList (Value.agg.inj e)
 dsimp only at e
 subst e
 refine ⟨?_,x,y,q,x',y',q',ad,h0,h3 0 _ rfl,h3 1 _ rfl,h3 2 _ rfl,h3 3 _ rfl,h3 4 _ rfl,h3 5 _ rfl,h20⟩
 cases p with
 | none=>cases h0
 | some a=>rfl
def cF (V:View)(v:Value)(l:L3):Prop:=RL V v l.1 l.2.1 l.2.2
theorem cF.le {V V':View}{v:Value}{l:L3}(h:cF V v l)(e:V.Le V'):cF V' v l:=RL.le h e
theorem bA {V:View}{v:Value}{l:L3}(h:cF V v l):∃(b1:Bool)(p1:OA)(n1 c1:Nat)(b2:Bool)(p2:OA)(n2 c2:Nat)(b3:Bool)(p3:OA)(n3 c3:Nat),v=.agg #[.bool b1,.slice p1 n1 c1,.bool b2,.slice p2 n2 c2,.bool b3,.slice p3 n3 c3]:=by
 obtain ⟨_,_,_,_,_,_,_,_,_,e,-⟩:=h;exact ⟨_,_,_,_,_,_,_,_,_,_,_,_,e⟩
theorem Ka {V:View}{xs:List Value}{l:L3}(h:cF V (.agg (List.toArray xs)) l):∀v∈xs,v.oneCell'=true:=by
 obtain ⟨_,_,_,_,_,_,_,_,_,_,_,_,e⟩:=bA h
 have e:=congrArg Array.toList (Value.agg.inj e)
 dsimp only at e
 subst e
 intro v hm
 simp only [List.mem_cons,List.not_mem_nil,or_false] at hm
 rcases hm with rfl|rfl|rfl|rfl|rfl|rfl<;>rfl
theorem JW {b:Bool}{p:OA}{n c:Nat}{b':Bool}{p':OA}{n' c':Nat}{b'':Bool}{p'':OA}{n'' c'':Nat}:∀v∈([.bool b,.slice p n c,.bool b',.slice p' n' c',.bool b'',.slice p'' n'' c'']:List Value),v.oneCell'=true:=by
 intro v hm
 simp only [List.mem_cons,List.not_mem_nil,or_false] at hm
 rcases hm with rfl|rfl|rfl|rfl|rfl|rfl<;>rfl
theorem JT {V:View}{p:OA}{n:Nat}{al:List L3}(h:cP 9 yF V p n al){i:Nat}(hi:i<al.length) :
  p.isSome=true/\∃(x1 x2:Int)(q1:OA)(y1 y2:Int)(q2:OA)(z1 z2:Int)(q3:OA)(a:Addr),ai p (i*9)=some a/\V.at (a.add 0) (.int .i64 x1)/\V.at (a.add 1) (.int .i64 x2)/\V.at (a.add 2) (.pointer q1)/\V.at (a.add 3) (.int .i64 y1)/\V.at (a.add 4) (.int .i64 y2)/\V.at (a.add 5) (.pointer q2)/\V.at (a.add 6) (.int .i64 z1)/\V.at (a.add 7) (.int .i64 z2)/\V.at (a.add 8) (.pointer q3) /\
   yF V (.agg #[.int .i64 x1,.int .i64 x2,.pointer q1,.int .i64 y1,.int .i64 y2,.pointer q2,.int .i64 z1,.int .i64 z2,.pointer q3]) al[i]:=by
 obtain ⟨ad,h0,xs,h1,h2,h3⟩:=h.at_ i hi
 have h20:=h2
 obtain ⟨_,_,_,_,_,_,_,_,_,e⟩:=h2.shape
 have e:=congrArg Array.toList (Value.agg.inj e)
 dsimp only at e
 subst e
 refine ⟨?_,_,_,_,_,_,_,_,_,_,ad,h0,h3 0 _ rfl,h3 1 _ rfl,h3 2 _ rfl,h3 3 _ rfl,h3 4 _ rfl,h3 5 _ rfl,h3 6 _ rfl,h3 7 _ rfl,h3 8 _ rfl,h20⟩
 cases p with
 | none=>cases h0
 | some a=>rfl
theorem Oo {x1 x2:Int}{q1:OA}{y1 y2:Int}{q2:OA}{z1 z2:Int}{q3:OA}:∀v∈([.int .i64 x1,.int .i64 x2,.pointer q1,.int .i64 y1,.int .i64 y2,.pointer q2,.int .i64 z1,.int .i64 z2,.pointer q3]:List Value),v.oneCell'=true:=by
 intro v hm
 simp only [List.mem_cons,List.not_mem_nil,or_false] at hm
 rcases hm with rfl|rfl|rfl|rfl|rfl|rfl|rfl|rfl|rfl<;>rfl
theorem Ga {V:View}{v:Value}{l:L3}(h:og V v l):∃(b1:Bool)(p1:OA)(n1 c1:Nat)(b2:Bool)(p2:OA)(n2 c2:Nat)(b3:Bool)(p3:OA)(n3 c3:Nat),v=.agg #[.bool b1,.slice p1 n1 c1,.bool b2,.slice p2 n2 c2,.bool b3,.slice p3 n3 c3]:=by
 rcases h with h|⟨-,b1,p,n,c,xs,b2,q,m,e',ys,b3,s,i,j,zs,hv,-⟩
 ·exact bA h
 ·exact ⟨b1,p,n,c,b2,q,m,e',b3,s,i,j,hv⟩
theorem JU {V:View}{p:OA}{n:Nat}{al:List L3}(h:cP 6 og V p n al){i:Nat}(hi:i<al.length) :
  p.isSome=true/\∃(b1:Bool)(p1:OA)(n1 c1:Nat)(b2:Bool)(p2:OA)(n2 c2:Nat)(b3:Bool)(p3:OA)(n3 c3:Nat)(a:Addr),ai p (i*6)=some a/\V.at (a.add 0) (.bool b1)/\V.at (a.add 1) (.slice p1 n1 c1)/\V.at (a.add 2) (.bool b2)/\V.at (a.add 3) (.slice p2 n2 c2)/\V.at (a.add 4) (.bool b3)/\V.at (a.add 5) (.slice p3 n3 c3) /\
   og V (.agg #[.bool b1,.slice p1 n1 c1,.bool b2,.slice p2 n2 c2,.bool b3,.slice p3 n3 c3]) al[i]:=by
 obtain ⟨ad,h0,xs,h1,h2,h3⟩:=h.at_ i hi
 have h20:=h2
 obtain ⟨_,_,_,_,_,_,_,_,_,_,_,_,e⟩:=Ga h2
 have e:=congrArg Array.toList (Value.agg.inj e)
 dsimp only at e
 subst e
 refine ⟨?_,_,_,_,_,_,_,_,_,_,_,_,_,ad,h0,h3 0 _ rfl,h3 1 _ rfl,h3 2 _ rfl,h3 3 _ rfl,h3 4 _ rfl,h3 5 _ rfl,h20⟩
 cases p with
 | none=>cases h0
 | some a=>rfl
def vP (ls:List L3):Bool:=decide (ls.length<=1024)&&ls.all cE
theorem Fk {V:View}{p:OA}{n c:Nat}{ls:List L3}(h:cP 6 og V p n ls)(hb:∀l∈ls,Bd l) :
  ab prog 65 #[.agg #[.slice p n c]] V fun r V'=>∃q m e,r=.tuple #[.slice q m e,.bool (vP ls)]/\(vP ls=true->cP 9 yF V' q m ls):=by
 obtain rfl:=h.len
 refine vo p _ c V _ ⟨fun hg V1 l1=>?_,fun hg=>⟨fun z V'=>∃i:Nat,z.2.2.2=(i:Int)/\i<=ls.length/\GR 9 yF V' z.1 z.2.1 z.2.2.1 (ls.take i)/\(ls.take i).all cE=true,fun z=>ls.length-z.2.2.2.toNat,⟨(0,0,[],0),by and_intros<;>rfl,0,rfl,Nat.zero_le _,GR.nil,rfl⟩,?_⟩⟩
 ·have hg:¬ls.length<=1024:=by have:=of_decide_eq_true hg;omega
  have e:vP ls=false:=by unfold vP;rw [decide_eq_false hg];rfl
  rw [e]
  exact ⟨_,_,_,rfl,fun h=>by cases h⟩
 have hle:ls.length<=1024:=by have:=of_decide_eq_false hg;omega
 have e0:vP ls=ls.all cE:=by unfold vP;rw [decide_eq_true hle];rfl
 rintro ⟨z1,z2,vs,z4⟩ V2 l2 ⟨i,e4,TV,hgr,hall⟩
 dsimp only at e4 hgr
 subst e4
 have zl:=hgr.len
 rw [List.length_take] at zl
 refine ⟨rfl,fun hlt=>?_,fun hlt V6 l6 bk hbk=>?_⟩
 ·have hlt:(i:Int)<ls.length:=of_decide_eq_true hlt
  have hi:i<ls.length:=by omega
  have w:i64.wrap ((i:Int)+1)=((i+1:Nat):Int):=by rw [ay (by omega)];rfl
  dsimp only
  rw [Int.toNat_natCast,w]
  obtain ⟨is,b1,p1,n1,c1,b2,p2,n2,c2,b3,p3,n3,c3,a,had,a0,a1,a2,a3,a4,a5,hl1⟩:=JU (h.le l2 fun _ _ g=>og.le g l2) hi
  have bd:=hb _ (List.getElem_mem hi)
  refine ⟨is,⟨by omega,by omega⟩,_,_,_,_,_,_,_,_,_,_,_,_,a,had,a0,a1,a2,a3,a4,a5,fun V3 l3=>(yS (hl1.le l3) bd).mono ?_⟩
  rintro r V4 l4 ⟨w4,rfl,⟨_,_,_,_,_,_,_,_,_,rfl⟩,hok⟩
  have V_:(ls.take (i+1)).all cE=cE ls[i]:=by rw [List.take_add_one,List.getElem?_eq_getElem hi,List.all_append,hall];simp
  refine ⟨_,_,_,_,_,_,_,_,_,_,rfl,fun hf V5 l5=>?_,fun hf=>⟨by omega,hgr.le,hgr.cap,rfl,Oo,fun sp c' h1 h2=>⟨(z1+1,c',_,((i+1:Nat):Int)),by dsimp only;omega,by and_intros<;>rfl,i+1,rfl,hi,?_,?_⟩⟩⟩
  ·have hf:cE ls[i]=false:=by simpa using hf
   have e:ls.all cE=false:=by
    rw [List.all_eq_false]
    exact ⟨_,List.getElem_mem hi,by rw [hf];exact Bool.false_ne_true⟩
   rw [e0,e]
   exact ⟨_,_,_,rfl,fun h=>by cases h⟩
  ·have hf:cE ls[i]=true:=by simpa using hf
   dsimp only
   rw [List.take_add_one,List.getElem?_eq_getElem hi]
   exact (hgr.mono (V':=V4) fun _ _ g=>yF.le g (l3.trans l4)).snoc rfl ⟨hok hf,bd⟩ (by decide) h1 h2
  ·rw [V_];simpa using hf
 ·have hlt:¬(i:Int)<ls.length:=of_decide_eq_false hlt
  obtain rfl:i=ls.length:=by omega
  rw [List.take_length] at hgr hall
  rw [e0,hall]
  obtain rfl:=hgr.len
  exact ⟨_,_,_,rfl,fun _=>cP.fE hbk (hgr.row.le fun _ _ g=>yF.le g l6) (by decide) hgr.le⟩
theorem Bp (x:Sd):∀r:List Sd,(iQ x r).length=r.length+1
 | []=>rfl
 | s::r=>by
  unfold iQ
  split
  ·rw [List.length_cons,Bp x r,List.length_cons]
  ·rfl
theorem mf {c c':List Sd}{l:L3}(e:bo c l=some c'):c'.length<=c.length+1:=by
 unfold bo at e
 split at e
 ·cases e
  rw [Bp]
  have:=tN c l
  omega
 ·split at e
  ·cases e;omega
  ·cases e
theorem A1 (l:L3)(r M:List L3)(c:List Sd):bB (l::r) M c=match bo c l with|some c'=>bB r (l::M) c'|none=>none:=rfl
theorem yR {V:View}{p:OA}{n c:Nat}{ls:List L3}(h:cP 9 yF V p n ls)(ho:∀l∈ls,cE l=true)(hn:ls.length<=2000) :
  ab prog 66 #[.slice p n c] V fun r V'=>∃q m e,r=.tuple #[.slice q m e,.bool (bB ls [] []).isSome]/\(bB ls [] []=none->r=.tuple #[.slice none 0 0,.bool false])/\(∀c',bB ls [] []=some c'->cP 17 fL V' q m c'/\m<=e):=by
 obtain rfl:=h.len
 refine Ad p _ c V _ ⟨fun z V'=>∃(i:Nat)(M:List L3)(cs:List Sd),z.2.2.2.2=(i:Int)/\i<=ls.length/\z.2.2.2.1=true/\bB ls [] []=bB (ls.drop i) M cs/\dS M cs/\(∀m∈M,cE m=true)/\cs.length<=i/\cP 17 fL V' z.1 z.2.1 cs/\z.2.1<=z.2.2.1,fun z=>ls.length-z.2.2.2.2.toNat,
  ⟨(none,0,0,true,0),by and_intros<;>rfl,0,[],[],rfl,Nat.zero_le _,rfl,rfl,dS.nil,(fun m hm=>by cases hm),Nat.le_refl _,cP.nil,Nat.le_refl _⟩,?_⟩
 rintro ⟨zp,zn,zc,zb,zi⟩ V1 l1 ⟨i,M,cs,e1,TV,e2,hcan,hC,hM,hcl,hL,hcap⟩
 dsimp only at e1 e2 hL hcap
 subst e1 e2
 refine ⟨rfl,fun hlt=>?_,fun hlt=>⟨(fun hf=>by cases hf),fun _ V7 l7=>?_⟩⟩
 ·have hlt:(i:Int)<ls.length:=of_decide_eq_true hlt
  have hi:i<ls.length:=by omega
  have w:i64.wrap ((i:Int)+1)=((i+1:Nat):Int):=by rw [ay (by omega)];rfl
  dsimp only
  rw [Int.toNat_natCast,w]
  obtain ⟨is,x1,x2,q1,y1,y2,q2,z1,z2,q3,a,had,a0,a1,a2,a3,a4,a5,a6,a7,a8,hl1⟩:=JT (h.le l1 fun _ _ g=>yF.le g l1) hi
  have ok:=ho _ (List.getElem_mem hi)
  have ed:ls.drop i=ls[i]::ls.drop (i+1):=List.drop_eq_getElem_cons hi
  rw [ed,A1] at hcan
  refine ⟨is,⟨by omega,by omega⟩,_,_,_,_,_,_,_,_,_,a,had,a0,a1,a2,a3,a4,a5,a6,a7,a8,fun V2 l2=>(qK (hL.le l2 fun _ _ g=>fL.le g l2) (hl1.le l2).1 hl1.2 (by omega) hC.jA).mono ?_⟩
  rintro r V3 l3 ⟨q,m,e,rfl,hr⟩
  refine ⟨_,_,_,_,rfl,fun hf=>⟨fun _ V4 l4=>?_,fun hf'=>by rw [hf] at hf';cases hf'⟩,fun hf=>?_⟩
  ·have hf:bo cs ls[i]=none:=by simpa using hf
   rw [hf] at hcan
   have hcan:bB ls [] []=none:=hcan
   rw [hcan]
   exact ⟨none,0,0,rfl,fun _=>rfl,fun c' e=>by cases e⟩
  ·have hf:(bo cs ls[i]).isSome=true:=by simpa using hf
   obtain ⟨c',e'⟩:=Option.isSome_iff_exists.1 hf
   rw [e'] at hcan
   have hcan:bB ls [] []=bB (ls.drop (i+1)) (ls[i]::M) c':=hcan
   refine ⟨(q,m,e,(bo cs ls[i]).isSome,((i+1:Nat):Int)),by dsimp only;omega,by and_intros<;>rfl,i+1,ls[i]::M,c',rfl,hi,hf,hcan,(zf hC hM ok).1 c' e',List.forall_mem_cons.2 ⟨ok,hM⟩,?_,(hr c' e').1,(hr c' e').2 hcap⟩
   have:=mf e'
   omega
 ·have hlt:¬(i:Int)<ls.length:=of_decide_eq_false hlt
  obtain rfl:i=ls.length:=by omega
  rw [List.drop_length] at hcan
  have hcan:bB ls [] []=some cs:=hcan
  rw [hcan]
  refine ⟨zp,zn,zc,rfl,(fun h=>by cases h),fun c' e=>?_⟩
  cases e
  exact ⟨hL.le l7 fun _ _ g=>fL.le g l7,hcap⟩
theorem tz {V:View}{p:OA}{n c:Nat}{cs:List Sd}(h:cP 17 fL V p n cs)(hn:cs.length<=100000) :
  ab prog 70 #[.slice p n c] V fun r V'=>∃q m e,r=.agg #[.slice q m e]/\cP 6 cF V' q m (cs.map Prod.fst)/\m<=e:=by
 obtain rfl:=h.len
 refine rP p _ c V _ ⟨fun z V'=>∃j:Nat,z.1=(j:Int)/\j<=cs.length/\GR 6 cF V' z.2.1 z.2.2.1 z.2.2.2 ((cs.map Prod.fst).take j),fun z=>cs.length-z.1.toNat,⟨(0,0,0,[]),by and_intros<;>rfl,0,rfl,Nat.zero_le _,GR.nil⟩,?_⟩
 rintro ⟨z1,z2,z3,vs⟩ V1 l1 ⟨j,e4,Hz,hg⟩
 dsimp only at e4 hg
 subst e4
 have zl:=hg.len
 rw [List.length_take,List.length_map] at zl
 refine ⟨rfl,fun hlt=>?_,fun hlt V4 l4 bk hb=>?_⟩
 ·have hlt:(j:Int)<cs.length:=of_decide_eq_true hlt
  have hi:j<cs.length:=by omega
  have w:i64.wrap ((j:Int)+1)=((j+1:Nat):Int):=by rw [ay (by omega)];rfl
  dsimp only
  rw [Int.toNat_natCast,w]
  obtain ⟨ps,a1,a2,a3,a4,a5,a6,a7,a8,a9,b1,b2,b3,b4,b5,b6,a,ha,k0,k1,k2,k3,k4,k5,k6,k7,k8,k9,k10,k11,k12,k13,k14,k15,k16,hr⟩:=ku (h.le l1 fun _ _ g=>fL.le g l1) hi
  obtain ⟨rl,ri,-,-⟩:=hr.both
  obtain ⟨s1,s2,s3⟩:=hr.2.1.sz
  refine ⟨ps,⟨by omega,by omega⟩,_,_,_,_,_,_,_,_,_,_,_,_,_,_,_,_,_,a,ha,k0,k1,k2,k3,k4,k5,k6,k7,k8,k9,k10,k11,k12,k13,k14,k15,k16,fun V2 l2=>(Fm (rl.le l2) s1 s2 s3 (by omega)).mono ?_⟩
  rintro r V3 l3 gr
  have g0:cF V3 r cs[j].1:=sW.U1 gr
  obtain ⟨_,_,_,_,_,_,_,_,_,_,_,_,rfl⟩:=bA g0
  refine ⟨_,_,_,_,_,_,_,_,_,_,_,_,rfl,by omega,hg.le,hg.cap,rfl,JW,fun sp c' h1 h2=>⟨(((j+1:Nat):Int),z2+1,c',_),by dsimp only;omega,by and_intros<;>rfl,j+1,rfl,hi,?_⟩⟩
  dsimp only
  rw [List.take_add_one,List.getElem?_map,List.getElem?_eq_getElem hi]
  exact (hg.mono (V':=V3) fun _ _ g=>cF.le g (l2.trans l3)).snoc rfl g0 (by decide) h1 h2
 ·have hlt:¬(j:Int)<cs.length:=of_decide_eq_false hlt
  obtain rfl:j=cs.length:=by omega
  rw [List.take_of_length_le (by rw [List.length_map];exact Nat.le_refl _)] at hg
  obtain rfl:=hg.len
  exact ⟨_,_,_,rfl,cP.fE hb (hg.row.le fun _ _ g=>cF.le g l4) (by decide) hg.le,hg.le⟩
def ng (c:List Sd):Bool:=decide (c≠[])&&c.all fun s=>!s.2.a&&!s.2.b
theorem tC {V:View}{p:OA}{n c:Nat}{cs:List Sd}(h:cP 17 fL V p n cs)(hn:cs.length<=100000) :
  ab prog 81 #[.slice p n c] V fun r V'=>r=.bool (ng cs):=by
 obtain rfl:=h.len
 refine mI p _ c V _ ⟨fun z V'=>∃j:Nat,z=(j:Int)/\j<=cs.length/\((cs.take j).all fun s=>!s.2.a&&!s.2.b)=true,fun z=>cs.length-z.toNat,⟨0,by and_intros<;>rfl,0,rfl,Nat.zero_le _,rfl⟩,?_⟩
 rintro z1 V1 l1 ⟨j,rfl,Hz,hall⟩
 refine ⟨rfl,fun hlt=>?_,fun hlt V4 l4=>?_⟩
 ·have hlt:(j:Int)<cs.length:=of_decide_eq_true hlt
  have hi:j<cs.length:=by omega
  have w:i64.wrap ((j:Int)+1)=((j+1:Nat):Int):=by rw [ay (by omega)];rfl
  rw [Int.toNat_natCast,w]
  obtain ⟨ps,a1,a2,a3,a4,a5,a6,a7,a8,a9,b1,b2,b3,b4,b5,b6,a,ha,k0,k1,k2,k3,k4,k5,k6,k7,k8,k9,k10,k11,k12,k13,k14,k15,k16,hr⟩:=ku (h.le l1 fun _ _ g=>fL.le g l1) hi
  have bad:(cs[j].2.a=true\/cs[j].2.b=true)->ng cs=false:=fun rG=>by
   unfold ng
   rw [Bool.and_eq_false_iff,List.all_eq_false]
   refine .inr ⟨_,List.getElem_mem hi,?_⟩
   rcases rG with h|h<;>simp [h]
  refine ⟨ps,⟨by omega,by omega⟩,_,_,_,_,_,_,_,_,_,_,_,_,_,_,_,_,_,a,ha,k0,k1,k2,k3,k4,k5,k6,k7,k8,k9,k10,k11,k12,k13,k14,k15,k16,fun h1 V2 l2=>by rw [bad (.inl h1)],fun h1=>⟨fun h2 V3 l3=>by rw [bad (.inr h2)],fun h2=>⟨((j+1:Nat):Int),by dsimp only;omega,by and_intros<;>rfl,j+1,rfl,hi,?_⟩⟩⟩
  rw [List.take_add_one,List.getElem?_eq_getElem hi,List.all_append,hall]
  simp [h1,h2]
 ·have hlt:¬(j:Int)<cs.length:=of_decide_eq_false hlt
  obtain rfl:j=cs.length:=by omega
  rw [List.take_length] at hall
  unfold ng
  rw [hall,Bool.and_true]
  congr 1
  cases cs with
  | nil=>rfl
  | cons s r=>simp
def CD (S:List L3)(i:Nat):Option ah.V2:=if 0<ah.cr (ah.aq (S.getD i (0,0,0))) (ah.aq (S.getD ((i+1)%S.length) (0,0,0))) then some (CJ (S.getD i (0,0,0)) (S.getD ((i+1)%S.length) (0,0,0)),CK (S.getD i (0,0,0)) (S.getD ((i+1)%S.length) (0,0,0))) else none
theorem Kp (S:List L3):iR S=(List.range S.length).filterMap (CD S):=rfl
theorem CE (S:List L3)(i:Nat):(List.range (i+1)).filterMap (CD S)=(List.range i).filterMap (CD S)++(CD S i).toList:=by
 rw [List.range_succ,List.filterMap_append]
 congr 1
theorem Fa (S:List L3):(iR S).length<=S.length:=by
 have:=List.length_filterMap_le (CD S) (List.range S.length)
 rw [List.length_range] at this
 exact this
theorem jd {α:Type}{l:List α}{i:Nat}{d:α}(h:i<l.length):l.getD i d=l[i]:=by rw [List.getD_eq_getElem?_getD,List.getElem?_eq_getElem h];rfl
theorem A2 (l m:L3):ah.cr (ah.aq l) (ah.aq m)=bz l m:=by unfold ah.cr ah.aq bz;grind
theorem kL {V:View}{p:OA}{n c:Nat}{cs:List Sd}(h:cP 17 fL V p n cs)(hn:cs.length<=100000) :
  ab prog 79 #[.slice p n c] V fun r V'=>∃q m e,r=.slice q m e/\cP 6 (CO 20000) V' q m (iR (cs.map Prod.fst)):=by
 obtain rfl:=h.len
 have hml:(cs.map Prod.fst).length=cs.length:=List.length_map ..
 refine lX p _ c V _ ⟨fun z V'=>∃j:Nat,z.2.2.2=(j:Int)/\j<=cs.length/\z.1<=j/\GR 6 (CO 20000) V' z.1 z.2.1 z.2.2.1 ((List.range j).filterMap (CD (cs.map Prod.fst))),fun z=>cs.length-z.2.2.2.toNat,⟨(0,0,[],0),by and_intros<;>first|rfl|trivial,0,rfl,Nat.zero_le _,Nat.le_refl _,GR.nil⟩,?_⟩
 rintro ⟨z1,z2,vs,z4⟩ V1 l1 ⟨j,e4,Hz,PR,hg⟩
 dsimp only at e4 hg PR
 subst e4
 refine ⟨rfl,fun hlt=>?_,fun hlt nZ dh bk hb=>?_⟩
 ·have hlt:(j:Int)<cs.length:=of_decide_eq_true hlt
  have hi:j<cs.length:=by omega
  have w:i64.wrap ((j:Int)+1)=((j+1:Nat):Int):=by rw [ay (by omega)];rfl
  have hm:(((j+1:Nat):Int)).tmod (cs.length:Int)=(((j+1)%cs.length:Nat):Int):=by rw [Int.ofNat_tmod]
  have hk:(j+1)%cs.length<cs.length:=Nat.mod_lt _ (by omega)
  dsimp only
  rw [w,hm]
  simp only [Int.toNat_natCast]
  obtain ⟨ps,a1,a2,a3,a4,a5,a6,a7,a8,a9,b1,b2,b3,b4,b5,b6,a,ha,k0,k1,k2,k3,k4,k5,k6,k7,k8,k9,k10,k11,k12,k13,k14,k15,k16,hr⟩:=ku (h.le l1 fun _ _ g=>fL.le g l1) hi
  obtain ⟨rl,-,-,-⟩:=hr.both
  obtain ⟨-,c1,c2,c3,c4,c5,c6,c7,c8,c9,d1,d2,d3,d4,d5,d6,aa,VG,m0,m1,m2,m3,m4,m5,m6,m7,m8,m9,m10,m11,m12,m13,m14,m15,m16,hr'⟩:=ku (h.le l1 fun _ _ g=>fL.le g l1) hk
  obtain ⟨rl',-,-,-⟩:=hr'.both
  have sl:=hr.2.1
  have sl':=hr'.2.1
  have ev:CD (cs.map Prod.fst) j=if 0<bz cs[j].1 cs[(j+1)%cs.length].1 then some (CJ cs[j].1 cs[(j+1)%cs.length].1,CK cs[j].1 cs[(j+1)%cs.length].1) else none:=by
   unfold CD
   rw [hml,jd (by omega:j<(cs.map Prod.fst).length),jd (by omega:(j+1)%cs.length<(cs.map Prod.fst).length),List.getElem_map,List.getElem_map,A2]
  generalize cs[j]=S at *
  generalize cs[(j+1)%cs.length]=T at *
  refine ⟨ps,⟨by omega,by omega⟩,_,_,_,_,_,_,_,_,_,_,_,_,_,_,_,_,_,a,ha,k0,k1,k2,k3,k4,k5,k6,k7,k8,k9,k10,k11,k12,k13,k14,k15,k16,by omega,ps,⟨by omega,by omega⟩,_,_,_,_,_,_,_,_,_,_,_,_,_,_,_,_,_,aa,VG,m0,m1,m2,m3,m4,m5,m6,m7,m8,m9,m10,m11,m12,m13,m14,m15,m16,fun V2 l2=>(EH (rl.le l2) sl).mono ?_⟩
  rintro r V3 l3 g1
  have g10:=g1
  obtain ⟨_,_,_,_,_,_,rfl,-,-⟩:=g1
  refine ⟨_,_,_,_,_,_,rfl,fun V4 l4=>(EH (rl'.le (l2.trans (l3.trans l4))) sl').mono ?_⟩
  rintro r V5 l5 g2
  have g20:=g2
  obtain ⟨_,_,_,_,_,_,rfl,-,-⟩:=g2
  refine ⟨_,_,_,_,_,_,rfl,fun V6 l6=>(fu (g10.le (l4.trans (l5.trans l6))) (g20.le l6) (lO sl).1 (lO sl).2 (lO sl').1 (lO sl').2 (by omega)).mono ?_⟩
  rintro r V7 l7 g3
  have nw:RR V7 r (bz S.1 T.1):=by rw [←A2];exact g3
  obtain ⟨_,_,_,rfl⟩:=nw.shape
  refine ⟨_,_,_,rfl,fun V8 l8=>(eE (nw.le l8) (k:=5000) ((ph sl.rj sl'.rj).mono (by omega)) (by omega)).mono ?_⟩
  rintro r V9 l9 rfl
  have fl:V1.Le V9:=l2.trans (l3.trans (l4.trans (l5.trans (l6.trans (l7.trans (l8.trans l9))))))
  refine ⟨_,rfl,fun hc jm l10=>(Fl (rl.le (fl.trans l10)) (rl'.le (fl.trans l10)) sl.rj sl'.rj (by omega)).mono ?_,fun hc=>⟨(z1,z2,vs,((j+1:Nat):Int)),by dsimp only;omega,by and_intros<;>first|rfl|trivial,j+1,rfl,hi,by dsimp only;omega,?_⟩⟩
  ·have hc:0<bz S.1 T.1:=ah.lJ.1 (of_decide_eq_true hc)
   rintro r kR bW ⟨Uj,rfl,⟨_,_,_,_,_,_,rfl⟩,hme⟩
   have gm:=hme (by grind)
   obtain ⟨sx,sy⟩:=OR sl.rj sl'.rj
   refine ⟨_,_,_,_,_,_,_,rfl,by omega,hg.le,hg.cap,rfl,On,fun sp c' h1 h2=>⟨(z1+1,c',_,((j+1:Nat):Int)),by dsimp only;omega,by and_intros<;>first|rfl|trivial,j+1,rfl,hi,by dsimp only;omega,?_⟩⟩
   dsimp only
   rw [CE,ev,if_pos hc]
   exact (hg.mono (V':=kR) fun _ _ g=>CO.le g (fl.trans (l10.trans bW))).snoc (a:=(CJ S.1 T.1,CK S.1 T.1)) rfl ⟨gm,sx.mono (by omega),sy.mono (by omega)⟩ (by decide) h1 h2
  ·have hc:¬0<bz S.1 T.1:=fun h=>of_decide_eq_false hc (ah.lJ.2 h)
   dsimp only
   rw [CE,ev,if_neg hc,Option.toList_none,List.append_nil]
   exact hg.mono fun _ _ g=>CO.le g fl
 ·have hlt:¬(j:Int)<cs.length:=of_decide_eq_false hlt
  obtain rfl:j=cs.length:=by omega
  rw [←hml,←Kp] at hg
  obtain rfl:=hg.len
  exact ⟨_,_,_,rfl,cP.fE hb (hg.row.le fun _ _ g=>CO.le g dh) (by decide) hg.le⟩
def OV (l:List ah.V2)(k:Nat):Rat:=((List.range k).map fun i=>ah.cr (l.getD i (0,0)) (l.getD ((i+1)%l.length) (0,0))).sum
theorem B7 (l:List ah.V2)(k:Nat):OV l (k+1)=OV l k+ah.cr (l.getD k (0,0)) (l.getD ((k+1)%l.length) (0,0)):=by
 unfold OV
 rw [List.range_succ,List.map_append,List.sum_append]
 simp [Rat.add_zero]
theorem CY {V:View}{p:OA}{n c:Nat}{l:List ah.V2}(h:cP 6 (CO 20000) V p n l)(hn:l.length<=100000) :
  ab prog 139 #[.slice p n c] V fun r V'=>RR V' r (tw l*((2:Int):Rat)⁻¹)/\Sz (100000*l.length+10) (tw l*((2:Int):Rat)⁻¹):=by
 obtain rfl:=h.len
 have step:∀k,k<=l.length->(∀i,i<l.length->Sz 20000 (l.getD i (0,0)).1/\Sz 20000 (l.getD i (0,0)).2)->Sz (100000*k+4) (OV l k):=by
  intro k
  induction k with
  | zero=>exact fun _ _=>KW _ (by omega)
  | succ k ih=>
   intro hk hs
   rw [B7]
   obtain ⟨s1,s2⟩:=hs k (by omega)
   obtain ⟨s3,s4⟩:=hs _ (Nat.mod_lt (k+1) (show l.length>0 by omega))
   exact ((ih (by omega) hs).add ((s1.mul s4).sub (s2.mul s3))).mono (by omega)
 have hsz:∀i,i<l.length->Sz 20000 (l.getD i (0,0)).1/\Sz 20000 (l.getD i (0,0)).2:=fun i hi=>by
  obtain ⟨-,_,_,_,_,_,_,_,-,-,-,-,-,-,-,g⟩:=oR h hi
  rw [jd hi]
  exact g.2
 refine Ci p _ c V _ ⟨fun z V'=>∃j:Nat,z.1=(j:Int)/\j<=l.length/\RR V' (.agg #[.int .i64 z.2.1,.int .i64 z.2.2.1,.pointer z.2.2.2]) (OV l j),fun z=>l.length-z.1.toNat,⟨(0,0,0,none),by and_intros<;>first|rfl|trivial,0,rfl,Nat.zero_le _,RR.zero _⟩,?_⟩
 rintro ⟨z1,z2,z3,z4⟩ V1 l1 ⟨j,e4,Hz,hg⟩
 dsimp only at e4 hg
 subst e4
 refine ⟨rfl,fun hlt=>?_,fun hlt V6 l6=>?_⟩
 ·have hlt:(j:Int)<l.length:=of_decide_eq_true hlt
  have hi:j<l.length:=by omega
  have w:i64.wrap ((j:Int)+1)=((j+1:Nat):Int):=by rw [ay (by omega)];rfl
  have hm:(((j+1:Nat):Int)).tmod (l.length:Int)=(((j+1)%l.length:Nat):Int):=by rw [Int.ofNat_tmod]
  have hk:(j+1)%l.length<l.length:=Nat.mod_lt _ (by omega)
  dsimp only
  rw [w,hm]
  simp only [Int.toNat_natCast]
  obtain ⟨ps,x,y,q,x',y',q',a,ha,a0,a1,a2,a3,a4,a5,gu⟩:=oR (h.le l1 fun _ _ g=>CO.le g l1) hi
  obtain ⟨-,u,v,t,u',v',t',b,hb,b0,b1,b2,b3,b4,b5,gw⟩:=oR (h.le l1 fun _ _ g=>CO.le g l1) hk
  have et:=B7 l j
  rw [jd hi,jd hk] at et
  have sj:=step j Hz hsz
  generalize l[j]=S at *
  generalize l[(j+1)%l.length]=T at *
  refine ⟨ps,⟨by omega,by omega⟩,_,_,_,_,_,_,a,ha,a0,a1,a2,a3,a4,a5,by omega,ps,⟨by omega,by omega⟩,_,_,_,_,_,_,b,hb,b0,b1,b2,b3,b4,b5,fun V2 l2=>(fu (gu.1.le l2) (gw.1.le l2) gu.2.1 gu.2.2 gw.2.1 gw.2.2 (by omega)).mono ?_⟩
  rintro r V3 l3 g3
  have nw:RR V3 r (ah.cr S T):=g3
  obtain ⟨_,_,_,rfl⟩:=nw.shape
  refine ⟨_,_,_,rfl,fun V4 l4=>(iT (hg.le (l2.trans (l3.trans l4))) (nw.le l4) sj ((gu.2.1.mul gw.2.2).sub (gu.2.2.mul gw.2.1)) (by omega)).mono ?_⟩
  rintro r V5 l5 g5
  have KD:=g5
  obtain ⟨_,_,_,rfl⟩:=g5.shape
  exact ⟨_,_,_,rfl,(((j+1:Nat):Int),_,_,_),by dsimp only;omega,by and_intros<;>first|rfl|trivial,j+1,rfl,hi,by rw [et];exact KD⟩
 ·have hlt:¬(j:Int)<l.length:=of_decide_eq_false hlt
  obtain rfl:j=l.length:=by omega
  have sj:=step l.length (Nat.le_refl _) hsz
  refine (AQ (hg.le l6) sj (by omega)).mono ?_
  rintro r V7 l7 g7
  have JA:=g7
  obtain ⟨_,_,_,rfl⟩:=g7.shape
  exact ⟨_,_,_,rfl,fun V8 l8=>⟨JA.le l8,(sj.mul (gK zZ)).mono (by omega)⟩⟩
theorem AM {V:View}{p:OA}{n c:Nat}{cs:List Sd}(h:cP 17 fL V p n cs)(hn:cs.length<=100000) :
  ab prog 82 #[.slice p n c] V fun r V'=>RR V' r (tw (iR (cs.map Prod.fst))*((2:Int):Rat)⁻¹)/\Sz 10000000010 (tw (iR (cs.map Prod.fst))*((2:Int):Rat)⁻¹):=by
 refine qw p n c V _ fun V1 l1=>(kL (h.le l1 fun _ _ g=>fL.le g l1) hn).mono ?_
 rintro r V2 l2 ⟨q,m,e,rfl,g⟩
 have vl:=Fa (cs.map Prod.fst)
 rw [List.length_map] at vl
 refine ⟨_,_,_,rfl,fun V3 l3=>(CY (g.le l3 fun _ _ g=>CO.le g l3) (by omega)).mono ?_⟩
 rintro r V4 l4 ⟨g4,s4⟩
 have He:=g4
 obtain ⟨_,_,_,rfl⟩:=g4.shape
 exact ⟨_,_,_,rfl,fun V5 l5=>⟨He.le l5,s4.mono (by omega)⟩⟩
structure Er (V:View) (yi ye yu:Value):Prop where
 inv:Fc V 0 yi
 emp:Fc V 1 ye
 Uh:Fc V 2 yu
 si:Gz yi
 se:Gz ye
 su:Gz yu
theorem Er.le {V V':View}{yi ye yu:Value}(h:Er V yi ye yu)(l:V.Le V'):Er V' yi ye yu:=⟨h.inv.le l,h.emp.le l,h.Uh.le l,h.si,h.se,h.su⟩
theorem iq {y:Value}(h:Gz y):IsIface y/\aU y=false:=by obtain ⟨a,rfl⟩:=h;exact ⟨.inr ⟨_,_,rfl⟩,rfl⟩
theorem dm:IsIface .nilIface/\aU .nilIface=true:=⟨.inl rfl,rfl⟩
def Az (ls:List L3)(bad RJ:Prop)(some_:List Sd->Prop):Prop:=(vP ls=false/\bad)\/(vP ls=true/\bB ls [] []=none/\RJ)\/(vP ls=true/\∃c,bB ls [] []=some c/\some_ c)
theorem Az.bad {ls:List L3}{p q:Prop}{s:List Sd->Prop}(h:Az ls p q s)(e:vP ls=false):p:=by
 rcases h with ⟨-,h⟩|⟨h,-⟩|⟨h,-⟩
 ·exact h
 ·rw [e] at h;cases h
 ·rw [e] at h;cases h
theorem Az.RJ {ls:List L3}{p q:Prop}{s:List Sd->Prop}(h:Az ls p q s)(e:vP ls=true)(e':bB ls [] []=none):q:=by
 rcases h with ⟨h,-⟩|⟨-,-,h⟩|⟨-,c,h,-⟩
 ·rw [e] at h;cases h
 ·exact h
 ·rw [e'] at h;cases h
theorem Az.some {ls:List L3}{p q:Prop}{s:List Sd->Prop}{c:List Sd}(h:Az ls p q s)(e:vP ls=true)(e':bB ls [] []=Option.some c):s c:=by
 rcases h with ⟨h,-⟩|⟨-,h,-⟩|⟨-,c',h,h'⟩
 ·rw [e] at h;cases h
 ·rw [e'] at h;cases h
 ·rw [e'] at h;cases h;exact h'
theorem Az.imp {ls:List L3}{p q p' q':Prop}{s s':List Sd->Prop}(h:Az ls p q s)(hp:p->p')(hq:q->q')(hs:∀c,bB ls [] []=Option.some c->s c->s' c):Az ls p' q' s':=by
 rcases h with ⟨h,h'⟩|⟨h,h1,h'⟩|⟨h,c,h1,h'⟩
 ·exact .inl ⟨h,hp h'⟩
 ·exact .inr (.inl ⟨h,h1,hq h'⟩)
 ·exact .inr (.inr ⟨h,c,h1,hs c h1 h'⟩)
theorem sO {ls:List L3}(h:vP ls=true):ls.length<=1024/\∀l∈ls,cE l=true:=by
 unfold vP at h
 rw [Bool.and_eq_true,decide_eq_true_eq,List.all_eq_true] at h
 exact h
theorem H9 {ls:List L3}(h:ls.length<=1024)(h':∀l∈ls,cE l=true):vP ls=true:=by
 unfold vP
 rw [decide_eq_true h,List.all_eq_true.2 h'];rfl
theorem me:∀{ls M:List L3} {c c':List Sd},bB ls M c=some c'->c'.length<=c.length+ls.length
 | [],_,_,_,e=>by cases e;simp
 | l::r,M,c,c',e=>by
  unfold bB at e
  cases h:bo c l with
  | none=>rw [h] at e;cases e
  | some c1=>
   rw [h] at e
   have:=me e
   have:=mf h
   rw [List.length_cons];omega
theorem C6 {ls:List L3}{c:List Sd}(e:bB ls [] []=some c)(h:vP ls=true):c.length<=100000:=by
 have:=me e
 have:=(sO h).1
 rw [List.length_nil] at *
 omega
def Ur (V':View)(r:Value)(ls:List L3)(yi ye:Value):Prop:=Az ls (r=.tuple #[.slice none 0 0,yi]) (r=.tuple #[.slice none 0 0,ye]) fun cs=>(∃q m e,r=.tuple #[.slice q m e,.nilIface]/\cP 17 fL V' q m cs/\m<=e)/\dS ls.reverse cs/\cs.length<=100000
theorem fW {V:View}{p:OA}{n c:Nat}{ls:List L3}(h:cP 6 og V p n ls)(hb:∀l∈ls,Bd l){yi ye yu:Value}(E:Er V yi ye yu) :
  ab prog 69 #[.agg #[.slice p n c]] V fun r V'=>Ur V' r ls yi ye:=by
 refine vf p n c V _ fun V1 l1=>(Fk (h.le l1 fun _ _ g=>og.le g l1) hb).mono ?_
 rintro r V2 l2 ⟨q,m,e,rfl,g⟩
 have L2:=l1.trans l2
 refine ⟨_,_,_,_,rfl,fun ho=>⟨yi,⟨_,rfl,(E.le L2).inv⟩,fun V3 l3=>.inl ⟨by simpa using ho,rfl⟩⟩,fun ho V4 l4=>?_⟩
 have ho:vP ls=true:=by simpa using ho
 have hg:=g ho
 refine (yR (hg.le l4 fun _ _ g=>yF.le g l4) (sO ho).2 (by have:=(sO ho).1;omega)).mono ?_
 rintro r V5 l5 ⟨q',m',e',rfl,hn,hs⟩
 refine ⟨_,_,_,_,rfl,fun hf=>⟨ye,⟨_,rfl,(E.le (L2.trans (l4.trans l5))).emp⟩,fun V6 l6=>.inr (.inl ⟨ho,by simpa using hf,rfl⟩)⟩,fun hf V7 l7=>?_⟩
 have hf:(bB ls [] []).isSome=true:=by simpa using hf
 obtain ⟨cs,hc⟩:=Option.isSome_iff_exists.1 hf
 have hC:=(oD dS.nil (fun m hm=>by cases hm) (sO ho).2).1 cs hc
 rw [List.append_nil] at hC
 exact .inr (.inr ⟨ho,cs,hc,⟨_,_,_,rfl,(hs cs hc).1.le l7 fun _ _ g=>fL.le g l7,(hs cs hc).2⟩,hC,C6 hc ho⟩)
theorem tE {V:View}{p:OA}{n c:Nat}{ls:List L3}(h:cP 6 og V p n ls)(hb:∀l∈ls,Bd l){yi ye yu:Value}(E:Er V yi ye yu) :
  ab prog 18 #[.agg #[.slice p n c]] V fun r V'=>Az ls (r=.tuple #[.agg #[.slice none 0 0],yi]) (r=.tuple #[.agg #[.slice none 0 0],ye]) fun cs=>∃q m e,r=.tuple #[.agg #[.slice q m e],.nilIface]/\cP 6 cF V' q m (cs.map Prod.fst)/\m<=e:=by
 refine rM p n c V _ fun V1 l1=>(fW (h.le l1 fun _ _ g=>og.le g l1) hb (E.le l1)).mono ?_
 rintro r V2 l2 (⟨ho,rfl⟩|⟨ho,hc,rfl⟩|⟨ho,cs,hc,⟨q,m,e,rfl,hL,-⟩,hC,hl⟩)
 ·obtain ⟨i1,i2⟩:=iq E.si
  exact ⟨_,_,_,_,rfl,i1,fun _ V3 l3=>.inl ⟨ho,rfl⟩,fun hf=>by rw [i2] at hf;cases hf⟩
 ·obtain ⟨i1,i2⟩:=iq E.se
  exact ⟨_,_,_,_,rfl,i1,fun _ V3 l3=>.inr (.inl ⟨ho,hc,rfl⟩),fun hf=>by rw [i2] at hf;cases hf⟩
 ·refine ⟨_,_,_,_,rfl,dm.1,(fun hf=>by cases hf),fun _ V4 l4=>(tz (hL.le l4 fun _ _ g=>fL.le g l4) hl).mono ?_⟩
  rintro r V5 l5 ⟨q',m',e',rfl,g,hm⟩
  exact ⟨_,_,_,rfl,fun V6 l6=>.inr (.inr ⟨ho,cs,hc,_,_,_,rfl,g.le l6 fun _ _ g=>cF.le g l6,hm⟩)⟩
def fM (V:View)(v:Value)(c:Rat×Rat):Prop:=Gy V v c.1 c.2
theorem fM.le {V V':View}{v:Value}{c:Rat×Rat}(h:fM V v c)(l:V.Le V'):fM V' v c:=Gy.le h l
theorem KS {b:Bool}{p:OA}{n c:Nat}{p':OA}{n' c':Nat}{d:Bool}{q:OA}{m e:Nat}{q':OA}{m' e':Nat}:∀v∈([.bool b,.slice p n c,.slice p' n' c',.bool d,.slice q m e,.slice q' m' e']:List Value),v.oneCell'=true:=by
 intro v hm
 simp only [List.mem_cons,List.not_mem_nil,or_false] at hm
 rcases hm with rfl|rfl|rfl|rfl|rfl|rfl<;>rfl
theorem oB {V:View}{p:OA}{n c:Nat}{ls:List L3}(h:cP 6 og V p n ls)(hb:∀l∈ls,Bd l){yi ye yu:Value}(E:Er V yi ye yu) :
  ab prog 23 #[.agg #[.slice p n c]] V fun r V'=>Az ls (r=.tuple #[.slice none 0 0,yi]) (r=.tuple #[.slice none 0 0,ye]) fun cs=>∃q m e,r=.tuple #[.slice q m e,.nilIface]/\cP 6 fM V' q m (iR (cs.map Prod.fst))/\∀x∈iR (cs.map Prod.fst),Sz 20000 x.1/\Sz 20000 x.2:=by
 refine nO p n c V _ fun V1 l1=>(fW (h.le l1 fun _ _ g=>og.le g l1) hb (E.le l1)).mono ?_
 rintro r V2 l2 (⟨ho,rfl⟩|⟨ho,hc,rfl⟩|⟨ho,cs,hc,⟨q,m,e,rfl,hL,-⟩,hC,hl⟩)
 ·obtain ⟨i1,i2⟩:=iq E.si
  exact ⟨_,_,_,_,rfl,i1,fun _ V3 l3=>.inl ⟨ho,rfl⟩,fun hf=>by rw [i2] at hf;cases hf⟩
 ·obtain ⟨i1,i2⟩:=iq E.se
  exact ⟨_,_,_,_,rfl,i1,fun _ V3 l3=>.inr (.inl ⟨ho,hc,rfl⟩),fun hf=>by rw [i2] at hf;cases hf⟩
 ·refine ⟨_,_,_,_,rfl,dm.1,(fun hf=>by cases hf),fun _ V4 l4=>(kL (hL.le l4 fun _ _ g=>fL.le g l4) hl).mono ?_⟩
  rintro r V5 l5 ⟨q',m',e',rfl,g⟩
  have vl:=Fa (cs.map Prod.fst)
  rw [List.length_map] at vl
  have R:∀{r:Value} {V':View},(∃q m e,r=.tuple #[.slice q m e,.nilIface]/\cP 6 fM V' q m (iR (cs.map Prod.fst))/\∀x∈iR (cs.map Prod.fst),Sz 20000 x.1/\Sz 20000 x.2)->Az ls (r=.tuple #[.slice none 0 0,yi]) (r=.tuple #[.slice none 0 0,ye]) fun cs=>∃q m e,r=.tuple #[.slice q m e,.nilIface]/\cP 6 fM V' q m (iR (cs.map Prod.fst))/\∀x∈iR (cs.map Prod.fst),Sz 20000 x.1/\Sz 20000 x.2:=fun h=>.inr (.inr ⟨ho,cs,hc,h⟩)
  generalize iR (cs.map Prod.fst)=A at *
  have hsz:∀x∈A,Sz 20000 x.1/\Sz 20000 x.2:=fun x hx=>by
   obtain ⟨i,hi,rfl⟩:=List.mem_iff_getElem.1 hx
   obtain ⟨-,_,_,_,_,_,_,_,-,-,-,-,-,-,-,g⟩:=oR g hi
   exact g.2
  obtain rfl:=g.len
  refine ⟨_,_,_,rfl,fun z V'=>∃j:Nat,z.2.2.2=(j:Int)/\j<=A.length/\GR 6 fM V' z.1 z.2.1 z.2.2.1 (A.take j),fun z=>A.length-z.2.2.2.toNat,⟨(0,0,[],0),by and_intros<;>rfl,0,rfl,Nat.zero_le _,GR.nil⟩,?_⟩
  rintro ⟨z1,z2,vs,z4⟩ V6 l6 ⟨j,e4,Hz,hg⟩
  dsimp only at e4 hg
  subst e4
  have zl:=hg.len
  rw [List.length_take] at zl
  refine ⟨rfl,fun hlt=>?_,fun hlt V9 l9 bk hbk=>?_⟩
  ·have hlt:(j:Int)<A.length:=of_decide_eq_true hlt
   have hi:j<A.length:=by omega
   have w:i64.wrap ((j:Int)+1)=((j+1:Nat):Int):=by rw [ay (by omega)];rfl
   dsimp only
   rw [Int.toNat_natCast,w]
   obtain ⟨ps,x,y,t,x',y',t',a,ha,a0,a1,a2,a3,a4,a5,gu⟩:=oR (g.le l6 fun _ _ g=>CO.le g l6) hi
   refine ⟨ps,⟨by omega,by omega⟩,_,_,_,_,_,_,a,ha,a0,a1,a2,a3,a4,a5,fun V7 l7=>(yT (gu.1.le l7) gu.2.1 gu.2.2 (by omega)).mono ?_⟩
   rintro r V8 l8 gr
   have g0:fM V8 r A[j]:=gr
   obtain ⟨_,_,_,_,_,_,_,_,_,_,_,_,_,_,rfl,-⟩:=gr
   refine ⟨_,_,_,_,_,_,_,_,_,_,_,_,_,_,rfl,by omega,hg.le,hg.cap,rfl,KS,fun sp c' h1 h2=>⟨(z1+1,c',_,((j+1:Nat):Int)),by dsimp only;omega,by and_intros<;>rfl,j+1,rfl,hi,?_⟩⟩
   dsimp only
   rw [List.take_add_one,List.getElem?_eq_getElem hi]
   exact (hg.mono (V':=V8) fun _ _ g=>fM.le g (l7.trans l8)).snoc rfl g0 (by decide) h1 h2
  ·have hlt:¬(j:Int)<A.length:=of_decide_eq_false hlt
   obtain rfl:j=A.length:=by omega
   rw [List.take_length] at hg
   have e1:=hg.len
   refine R ⟨mA bk z2,z1,z2,rfl,?_,hsz⟩
   rw [e1]
   exact cP.fE hbk (hg.row.le fun _ _ g=>fM.le g l9) (by decide) (by have:=hg.le;omega)
theorem jn {V:View}{p:OA}{n c:Nat}{ls:List L3}(h:cP 6 og V p n ls)(hb:∀l∈ls,Bd l){yi ye yu:Value}(E:Er V yi ye yu) :
  ab prog 25 #[.agg #[.slice p n c]] V fun r V'=>Az ls (r=.tuple #[.agg #[.bool false,.slice none 0 0,.slice none 0 0],yi]) (r=.tuple #[.agg #[.bool false,.slice none 0 0,.slice none 0 0],ye])
   fun cs=>(ng cs=false->r=.tuple #[.agg #[.bool false,.slice none 0 0,.slice none 0 0],yu])/\(ng cs=true->∃w,r=.tuple #[w,.nilIface]/\RA V' w (tw (iR (cs.map Prod.fst))*((2:Int):Rat)⁻¹)/\Sz 10000000010 (tw (iR (cs.map Prod.fst))*((2:Int):Rat)⁻¹)):=by
 refine vd p n c V _ fun V1 l1=>(fW (h.le l1 fun _ _ g=>og.le g l1) hb (E.le l1)).mono ?_
 rintro r V2 l2 (⟨ho,rfl⟩|⟨ho,hc,rfl⟩|⟨ho,cs,hc,⟨q,m,e,rfl,hL,-⟩,hC,hl⟩)
 ·obtain ⟨i1,i2⟩:=iq E.si
  exact ⟨_,_,_,_,rfl,i1,fun _ V3 l3=>.inl ⟨ho,rfl⟩,fun hf=>by rw [i2] at hf;cases hf⟩
 ·obtain ⟨i1,i2⟩:=iq E.se
  exact ⟨_,_,_,_,rfl,i1,fun _ V3 l3=>.inr (.inl ⟨ho,hc,rfl⟩),fun hf=>by rw [i2] at hf;cases hf⟩
 ·have L2:=l1.trans l2
  refine ⟨_,_,_,_,rfl,dm.1,(fun hf=>by cases hf),fun _ V4 l4=>(tC (hL.le l4 fun _ _ g=>fL.le g l4) hl).mono ?_⟩
  rintro r V5 l5 rfl
  refine ⟨_,rfl,fun hf=>⟨yu,⟨_,rfl,(E.le (L2.trans (l4.trans l5))).Uh⟩,fun V6 l6=>.inr (.inr ⟨ho,cs,hc,fun _=>rfl,fun ht=>by rw [ht] at hf;cases hf⟩)⟩,fun hf V7 l7=>?_⟩
  have hf:ng cs=true:=by simpa using hf
  have mV:=l4.trans (l5.trans l7)
  refine (AM (hL.le mV fun _ _ g=>fL.le g mV) hl).mono ?_
  rintro r V8 l8 ⟨g,sg⟩
  have g0:=g
  obtain ⟨_,_,_,rfl⟩:=g.shape
  refine ⟨_,_,_,rfl,fun V9 l9=>(yQ (g0.le l9) sg (by omega)).mono ?_⟩
  rintro r jm l10 ga
  have Vj:=ga
  obtain ⟨_,_,_,_,_,_,_,rfl⟩:=ga.shape
  exact ⟨_,_,_,_,_,_,_,rfl,fun kR bW=>.inr (.inr ⟨ho,cs,hc,(fun ht=>by rw [hf] at ht;cases ht),fun _=>⟨_,rfl,Vj.le bW,sg⟩⟩)⟩
theorem yP {V:View}{v:Value}{q:Rat}(h:RA V v q){k:Nat}(hs:Sz k q)(hk:k<=274877906944):ab prog 43 #[v] V fun r V'=>RQ V' r q:=by
 obtain ⟨b,xs,ys,hr,-,e,hl⟩:=RE.raw (no:=false) ⟨(fun h=>nomatch h),fun _=>h⟩ (fun h=>nomatch h)
 obtain ⟨m1,m2⟩:=hl k hs
 have e:F9 b xs ys=q:=e
 rw [←e]
 exact Fv hr (by omega) (by omega)
theorem Mg {V:View}{vs:List Value}{ls:List L3}(h:Row 6 cF V vs ls){i:Nat}(hi:i<ls.length):∃b1 p1 n1 c1 b2 p2 n2 c2 b3 p3 n3 c3,i*6+6<=vs.length/\(vs.drop (i*6)).take 6=[Value.bool b1,.slice p1 n1 c1,.bool b2,.slice p2 n2 c2,.bool b3,.slice p3 n3 c3] /\
  cF V (.agg #[.bool b1,.slice p1 n1 c1,.bool b2,.slice p2 n2 c2,.bool b3,.slice p3 n3 c3]) ls[i]:=by
 obtain ⟨xs,h1,h2,h3⟩:=h.at_ i hi
 have hl:=h.jq (by decide)
 have h20:=h2
 obtain ⟨_,_,_,_,_,_,_,_,_,_,_,_,e⟩:=bA h2
 have e:=congrArg Array.toList (Value.agg.inj e)
 dsimp only at e
 subst e
 refine ⟨_,_,_,_,_,_,_,_,_,_,_,_,by omega,?_,h20⟩
 apply List.ext_getElem?
 intro j
 rw [List.getElem?_take]
 split
 ·rename_i hj
  rw [List.getElem?_drop]
  exact h3 j _ (List.getElem?_eq_getElem (by show j<6;omega))▸(List.getElem?_eq_getElem (by show j<6;omega)).symm
 ·rename_i hj
  rw [List.getElem?_eq_none (by show 6<=j;omega)]
theorem yZ {V:View}{p:OA}{n c:Nat}{ls:List L3}(h:cP 6 cF V p n ls)(hn:ls.length<=1000000)(hs:∀l∈ls,Bd l) :
  ab prog 71 #[.slice p n c] V fun r V'=>∃q m e,r=.slice q m e/\cP 6 cF V' q m ls:=by
 obtain rfl:=h.len
 refine wW p _ c V _ ⟨fun z V'=>∃j:Nat,z.2.2.2=(j:Int)/\j<=ls.length/\GR 6 cF V' z.1 z.2.1 z.2.2.1 (ls.take j),fun z=>ls.length-z.2.2.2.toNat,⟨(0,0,[],0),by and_intros<;>rfl,0,rfl,Nat.zero_le _,GR.nil⟩,?_⟩
 rintro ⟨z1,z2,vs,z4⟩ V1 l1 ⟨j,e4,Hz,hg⟩
 dsimp only at e4 hg
 subst e4
 have zl:=hg.len
 rw [List.length_take] at zl
 refine ⟨rfl,fun hlt=>?_,fun hlt V4 l4 bk hb=>?_⟩
 ·have hlt:(j:Int)<ls.length:=of_decide_eq_true hlt
  have hi:j<ls.length:=by omega
  obtain ⟨ad,ha,xs,-,hf,hat⟩:=(h.le l1 fun _ _ g=>cF.le g l1).at_ j hi
  have hf0:=hf
  obtain ⟨_,_,_,_,_,_,_,_,_,_,_,_,ex⟩:=bA hf
  have ex:=congrArg Array.toList (Value.agg.inj ex)
  dsimp only at ex
  subst ex
  have w:i64.wrap ((j:Int)+1)=((j+1:Nat):Int):=by rw [ay (by omega)];rfl
  dsimp only
  rw [Int.toNat_natCast,w]
  obtain ⟨d1,d2,d3⟩:=(hs _ (List.getElem_mem hi)).ag
  refine ⟨lD ha,⟨by omega,by omega⟩,_,_,_,_,_,_,_,_,_,_,_,_,ad,ha,hat 0 _ rfl,hat 1 _ rfl,hat 2 _ rfl,hat 3 _ rfl,hat 4 _ rfl,hat 5 _ rfl,fun V2 l2=>(iX (hf0.le l2) (by omega) (by omega) (by omega)).mono ?_⟩
  rintro r V3 l3 g
  have g0:cF V3 r ls[j]:=g
  obtain ⟨_,_,_,_,_,_,_,_,_,_,_,_,rfl⟩:=bA g0
  refine ⟨_,_,_,_,_,_,_,_,_,_,_,_,rfl,by omega,hg.le,hg.cap,rfl,JW,fun sp c' h1 h2=>⟨(z1+1,c',_,((j+1:Nat):Int)),by dsimp only;omega,by and_intros<;>rfl,j+1,rfl,hi,?_⟩⟩
  dsimp only
  rw [List.take_add_one,List.getElem?_eq_getElem hi]
  exact (hg.mono (V':=V3) fun _ _ g=>cF.le g (l2.trans l3)).snoc rfl g0 (by decide) h1 h2
 ·have hlt:¬(j:Int)<ls.length:=of_decide_eq_false hlt
  obtain rfl:j=ls.length:=by omega
  rw [List.take_length] at hg
  obtain rfl:=hg.len
  exact ⟨_,_,_,rfl,cP.fE hb (hg.row.le fun _ _ g=>cF.le g l4) (by decide) hg.le⟩
theorem tI {V:View}{p:OA}{n c:Nat}{q:OA}{m d:Nat}{A:List L3}(hA:cP 6 cF V p n A)(hB:cP 6 cF V q m A)(hn:A.length<=1000000)(hs:∀l∈A,Bd l) :
  ab prog 111 #[.slice p n c,.slice q m d] V fun r V'=>r=.bool true:=by
 obtain rfl:=hA.len
 obtain rfl:=hB.len
 refine rZ p _ c q _ d V _ ⟨fun h=>by simp at h,fun _=>⟨fun z V'=>∃j:Nat,z=(j:Int)/\j<=A.length,fun z=>A.length-z.toNat,⟨0,by and_intros<;>rfl,0,rfl,Nat.zero_le _⟩,?_⟩⟩
 rintro z V2 l2 ⟨j,rfl,Hz⟩
 refine ⟨rfl,fun hlt=>?_,fun hlt V6 l6=>rfl⟩
 have hlt:(j:Int)<A.length:=of_decide_eq_true hlt
 have hi:j<A.length:=by omega
 obtain ⟨ad,ha,xs,-,hf,hat⟩:=(hA.le l2 fun _ _ g=>cF.le g l2).at_ j hi
 obtain ⟨P_,ha',ys,-,hf',hat'⟩:=(hB.le l2 fun _ _ g=>cF.le g l2).at_ j hi
 have hf0:=hf
 have QS:=hf'
 obtain ⟨_,_,_,_,_,_,_,_,_,_,_,_,ex⟩:=bA hf
 obtain ⟨_,_,_,_,_,_,_,_,_,_,_,_,ey⟩:=bA hf'
 have ex:=congrArg Array.toList (Value.agg.inj ex)
 have ey:=congrArg Array.toList (Value.agg.inj ey)
 dsimp only at ex ey
 subst ex ey
 have w:i64.wrap ((j:Int)+1)=((j+1:Nat):Int):=by rw [ay (by omega)];rfl
 rw [Int.toNat_natCast,w]
 obtain ⟨d1,d2,d3⟩:=(hs _ (List.getElem_mem hi)).ag
 refine ⟨lD ha,⟨by omega,by omega⟩,_,_,_,_,_,_,_,_,_,_,_,_,ad,ha,hat 0 _ rfl,hat 1 _ rfl,hat 2 _ rfl,hat 3 _ rfl,hat 4 _ rfl,hat 5 _ rfl,lD ha',⟨by omega,by omega⟩,_,_,_,_,_,_,_,_,_,_,_,_,P_,ha',hat' 0 _ rfl,hat' 1 _ rfl,hat' 2 _ rfl,hat' 3 _ rfl,hat' 4 _ rfl,hat' 5 _ rfl,fun V3 l3=>(vY (hf0.le l3) (QS.le l3) (by omega) (by omega) (by omega)).mono ?_⟩
 rintro r V4 l4 rfl
 rw [decide_eq_true ⟨rfl,rfl,rfl⟩]
 exact ⟨_,rfl,(fun h=>nomatch h),fun _=>⟨((j+1:Nat):Int),by dsimp only;omega,by and_intros<;>rfl,j+1,rfl,hi⟩⟩
def sD (V:View)(v:Value)(c:Rat×Rat):Prop:=RP V v c.1 c.2
theorem sD.le {V V':View}{v:Value}{c:Rat×Rat}(h:sD V v c)(l:V.Le V'):sD V' v c:=RP.le h l
theorem sD.shape {V:View}{v:Value}{c:Rat×Rat}(h:sD V v c):∃(b:Bool)(p:OA)(n c:Nat)(p':OA)(n' c':Nat)(d:Bool)(q:OA)(m e:Nat)(q':OA)(m' e':Nat),v=.agg #[.bool b,.slice p n c,.slice p' n' c',.bool d,.slice q m e,.slice q' m' e']:=by
 obtain ⟨p,n,c,p',n',c',q,m,e,q',m',e',h,-⟩:=h
 exact ⟨_,p,n,c,p',n',c',_,q,m,e,q',m',e',h⟩
theorem fM.shape {V:View}{v:Value}{c:Rat×Rat}(h:fM V v c):∃(b:Bool)(p:OA)(n c:Nat)(p':OA)(n' c':Nat)(d:Bool)(q:OA)(m e:Nat)(q':OA)(m' e':Nat),v=.agg #[.bool b,.slice p n c,.slice p' n' c',.bool d,.slice q m e,.slice q' m' e']:=by
 obtain ⟨_,_,_,_,_,_,_,_,_,_,_,_,_,_,h,-⟩:=h
 exact ⟨_,_,_,_,_,_,_,_,_,_,_,_,_,_,h⟩
theorem Du {R:View->Value->Rat×Rat->Prop}(sh:∀{V v c},R V v c->∃(b:Bool)(p:OA)(n c:Nat)(p':OA)(n' c':Nat)(d:Bool)(q:OA)(m e:Nat)(q':OA)(m' e':Nat),v=.agg #[.bool b,.slice p n c,.slice p' n' c',.bool d,.slice q m e,.slice q' m' e'])
  {V:View}{p:OA}{n:Nat}{al:List (Rat×Rat)}(h:cP 6 R V p n al){i:Nat}(hi:i<al.length) :
  p.isSome=true/\∃(b1:Bool)(p1:OA)(n1 c1:Nat)(p2:OA)(n2 c2:Nat)(b2:Bool)(p3:OA)(n3 c3:Nat)(p4:OA)(n4 c4:Nat)(a:Addr),ai p (i*6)=some a/\V.at (a.add 0) (.bool b1)/\V.at (a.add 1) (.slice p1 n1 c1)/\V.at (a.add 2) (.slice p2 n2 c2)/\V.at (a.add 3) (.bool b2)/\V.at (a.add 4) (.slice p3 n3 c3)/\V.at (a.add 5) (.slice p4 n4 c4) /\
   R V (.agg #[.bool b1,.slice p1 n1 c1,.slice p2 n2 c2,.bool b2,.slice p3 n3 c3,.slice p4 n4 c4]) al[i]:=by
 obtain ⟨ad,h0,xs,h1,h2,h3⟩:=h.at_ i hi
 have h20:=h2
 obtain ⟨_,_,_,_,_,_,_,_,_,_,_,_,_,_,e⟩:=sh h2
 have e:=congrArg Array.toList (Value.agg.inj e)
 dsimp only at e
 subst e
 refine ⟨?_,_,_,_,_,_,_,_,_,_,_,_,_,_,_,ad,h0,h3 0 _ rfl,h3 1 _ rfl,h3 2 _ rfl,h3 3 _ rfl,h3 4 _ rfl,h3 5 _ rfl,h20⟩
 cases p with
 | none=>cases h0
 | some a=>rfl
theorem ID {R:View->Value->Rat×Rat->Prop}(sh:∀{V v c},R V v c->∃(b:Bool)(p:OA)(n c:Nat)(p':OA)(n' c':Nat)(d:Bool)(q:OA)(m e:Nat)(q':OA)(m' e':Nat),v=.agg #[.bool b,.slice p n c,.slice p' n' c',.bool d,.slice q m e,.slice q' m' e'])
  {V:View}{vs:List Value}{al:List (Rat×Rat)}(h:Row 6 R V vs al){i:Nat}(hi:i<al.length) :
  ∃(b1:Bool)(p1:OA)(n1 c1:Nat)(p2:OA)(n2 c2:Nat)(b2:Bool)(p3:OA)(n3 c3:Nat)(p4:OA)(n4 c4:Nat),i*6+6<=vs.length/\(vs.drop (i*6)).take 6=[.bool b1,.slice p1 n1 c1,.slice p2 n2 c2,.bool b2,.slice p3 n3 c3,.slice p4 n4 c4] /\
   R V (.agg #[.bool b1,.slice p1 n1 c1,.slice p2 n2 c2,.bool b2,.slice p3 n3 c3,.slice p4 n4 c4]) al[i]:=by
 obtain ⟨xs,h1,h2,h3⟩:=h.at_ i hi
 have hl:=h.jq (by decide)
 have h20:=h2
 obtain ⟨_,_,_,_,_,_,_,_,_,_,_,_,_,_,e⟩:=sh h2
 have e:=congrArg Array.toList (Value.agg.inj e)
 dsimp only at e
 subst e
 refine ⟨_,_,_,_,_,_,_,_,_,_,_,_,_,_,by omega,?_,h20⟩
 apply List.ext_getElem?
 intro j
 rw [List.getElem?_take]
 split
 ·rename_i hj
  rw [List.getElem?_drop]
  exact h3 j _ (List.getElem?_eq_getElem (by show j<6;omega))▸(List.getElem?_eq_getElem (by show j<6;omega)).symm
 ·rename_i hj
  rw [List.getElem?_eq_none (by show 6<=j;omega)]
theorem y_ {V:View}{p:OA}{n c:Nat}{A:List (Rat×Rat)}(h:cP 6 sD V p n A)(hn:A.length<=1000000){k:Nat}(hs:∀x∈A,Sz k x.1/\Sz k x.2)(hk:k<=1099511627776) :
  ab prog 29 #[.slice p n c] V fun r V'=>∃q m e,r=.slice q m e/\cP 6 fM V' q m A:=by
 obtain rfl:=h.len
 refine wX p _ c V _ ⟨fun z V'=>∃j:Nat,z.2.2.2=(j:Int)/\j<=A.length/\GR 6 fM V' z.1 z.2.1 z.2.2.1 (A.take j),fun z=>A.length-z.2.2.2.toNat,⟨(0,0,[],0),by and_intros<;>rfl,0,rfl,Nat.zero_le _,GR.nil⟩,?_⟩
 rintro ⟨z1,z2,vs,z4⟩ V1 l1 ⟨j,e4,Hz,hg⟩
 dsimp only at e4 hg
 subst e4
 have zl:=hg.len
 rw [List.length_take] at zl
 refine ⟨rfl,fun hlt=>?_,fun hlt V4 l4 bk hb=>?_⟩
 ·have hlt:(j:Int)<A.length:=of_decide_eq_true hlt
  have hi:j<A.length:=by omega
  have w:i64.wrap ((j:Int)+1)=((j+1:Nat):Int):=by rw [ay (by omega)];rfl
  dsimp only
  rw [Int.toNat_natCast,w]
  obtain ⟨ps,b1,p1,n1,c1,p2,n2,c2,b2,p3,n3,c3,p4,n4,c4,a,ha,a0,a1,a2,a3,a4,a5,g⟩:=Du sD.shape (h.le l1 fun _ _ g=>sD.le g l1) hi
  obtain ⟨s1,s2⟩:=hs _ (List.getElem_mem hi)
  refine ⟨ps,⟨by omega,by omega⟩,_,_,_,_,_,_,_,_,_,_,_,_,_,_,a,ha,a0,a1,a2,a3,a4,a5,fun V2 l2=>(AZ (g.le l2) s1 s2 hk).mono ?_⟩
  rintro r V3 l3 gr
  have g0:fM V3 r A[j]:=gr
  obtain ⟨_,_,_,_,_,_,_,_,_,_,_,_,_,_,rfl⟩:=g0.shape
  refine ⟨_,_,_,_,_,_,_,_,_,_,_,_,_,_,rfl,by omega,hg.le,hg.cap,rfl,KS,fun sp c' h1 h2=>⟨(z1+1,c',_,((j+1:Nat):Int)),by dsimp only;omega,by and_intros<;>rfl,j+1,rfl,hi,?_⟩⟩
  dsimp only
  rw [List.take_add_one,List.getElem?_eq_getElem hi]
  exact (hg.mono (V':=V3) fun _ _ g=>fM.le g (l2.trans l3)).snoc rfl g0 (by decide) h1 h2
 ·have hlt:¬(j:Int)<A.length:=of_decide_eq_false hlt
  obtain rfl:j=A.length:=by omega
  rw [List.take_length] at hg
  obtain rfl:=hg.len
  exact ⟨_,_,_,rfl,cP.fE hb (hg.row.le fun _ _ g=>fM.le g l4) (by decide) hg.le⟩
theorem tJ {V:View}{p:OA}{n c:Nat}{q:OA}{m d:Nat}{A:List (Rat×Rat)}(hA:cP 6 fM V p n A)(hB:cP 6 fM V q m A)(hn:A.length<=1000000){k:Nat}(hs:∀x∈A,Sz k x.1/\Sz k x.2)(hk:k<=1099511627776) :
  ab prog 28 #[.slice p n c,.slice q m d] V fun r V'=>r=.bool true:=by
 obtain rfl:=hA.len
 obtain rfl:=hB.len
 refine r_ p _ c q _ d V _ ⟨fun h=>by simp at h,fun _=>⟨fun z V'=>∃j:Nat,z=(j:Int)/\j<=A.length,fun z=>A.length-z.toNat,⟨0,by and_intros<;>rfl,0,rfl,Nat.zero_le _⟩,?_⟩⟩
 rintro z V2 l2 ⟨j,rfl,Hz⟩
 refine ⟨rfl,fun hlt=>?_,fun hlt V6 l6=>rfl⟩
 have hlt:(j:Int)<A.length:=of_decide_eq_true hlt
 have hi:j<A.length:=by omega
 have w:i64.wrap ((j:Int)+1)=((j+1:Nat):Int):=by rw [ay (by omega)];rfl
 rw [Int.toNat_natCast,w]
 obtain ⟨ps,b1,p1,n1,c1,p2,n2,c2,b2,p3,n3,c3,p4,n4,c4,a,ha,a0,a1,a2,a3,a4,a5,g⟩:=Du fM.shape (hA.le l2 fun _ _ g=>fM.le g l2) hi
 obtain ⟨ps',b1',Ot,n1',c1',RT,RC,c2',b2',RU,RG,c3',WE,n4',U7,a',ha',a0',a1',UY,a3',a4',UZ,g'⟩:=Du fM.shape (hB.le l2 fun _ _ g=>fM.le g l2) hi
 obtain ⟨s1,s2⟩:=hs _ (List.getElem_mem hi)
 refine ⟨ps,⟨by omega,by omega⟩,_,_,_,_,_,_,_,_,_,_,_,_,_,_,a,ha,a0,a1,a2,a3,a4,a5,ps',⟨by omega,by omega⟩,_,_,_,_,_,_,_,_,_,_,_,_,_,_,a',ha',a0',a1',UY,a3',a4',UZ,fun V3 l3=>(vZ (fM.le g l3) (fM.le g' l3) s1 s2 hk).mono ?_⟩
 rintro r V4 l4 rfl
 rw [decide_eq_true ⟨rfl,rfl⟩]
 exact ⟨_,rfl,(fun h=>nomatch h),fun _=>⟨((j+1:Nat):Int),by dsimp only;omega,by and_intros<;>rfl,j+1,rfl,hi⟩⟩
theorem cP.q {V:View}{p:OA}{n:Nat}{ls:List L3}(h:cP 6 cF V p n ls):cP 6 og V p n ls:=⟨h.len,fun i hi=>by
 obtain ⟨ad,h0,xs,h1,h2,h3⟩:=h.at_ i hi
 exact ⟨ad,h0,xs,h1,.inl h2,h3⟩⟩
theorem mT {V:View}{p:OA}{n c:Nat}{ls:List L3}(h:cP 6 cF V p n ls)(hn:ls.length<=1000000)(hs:∀l∈ls,Bd l) :
  ab prog 19 #[.slice p n c] V fun r V'=>∃q m e,r=.agg #[.slice q m e]/\cP 6 cF V' q m ls:=by
 refine vL p n c V _ fun V1 l1=>(yZ (h.le l1 fun _ _ g=>cF.le g l1) hn hs).mono ?_
 rintro r V2 l2 ⟨q,m,e,rfl,g⟩
 exact ⟨_,_,_,rfl,fun V3 l3=>⟨_,_,_,rfl,g.le l3 fun _ _ g=>cF.le g l3⟩⟩
theorem ze {V:View}{p:OA}{n c:Nat}{q:OA}{m d:Nat}{A:List L3}(hA:cP 6 cF V p n A)(hB:cP 6 cF V q m A)(hn:A.length<=1000000)(hs:∀l∈A,Bd l) :
  ab prog 46 #[.agg #[.slice p n c],.agg #[.slice q m d]] V fun r V'=>r=.bool true:=by
 refine wY p n c q m d V _ fun V1 l1=>(tI (hA.le l1 fun _ _ g=>cF.le g l1) (hB.le l1 fun _ _ g=>cF.le g l1) hn hs).mono ?_
 rintro r V2 l2 rfl
 exact ⟨_,rfl,fun V3 l3=>rfl⟩
def mF:List L3:=[(0,1,0),(-1,0,1),(0,-1,1),(1,0,0)]
def pG:List (Rat×Rat):=[(((0:Int):Rat),((0:Int):Rat)),(((1:Int):Rat),((0:Int):Rat)),(((1:Int):Rat),((1:Int):Rat)),(((0:Int):Rat),((1:Int):Rat))]
def PI:List (Rat×Rat):=[(((1:Int):Rat),((0:Int):Rat)),(((1:Int):Rat),((1:Int):Rat)),(((0:Int):Rat),((1:Int):Rat)),(((0:Int):Rat),((0:Int):Rat))]
theorem Mk:∀i:Fin 4,¬((pG.getD i (0,0)).1=(pG.getD ((i+1)%4) (0,0)).1/\(pG.getD i (0,0)).2=(pG.getD ((i+1)%4) (0,0)).2)/\DU (pG.getD i (0,0)).1 (pG.getD i (0,0)).2 (pG.getD ((i+1)%4) (0,0)).1 (pG.getD ((i+1)%4) (0,0)).2=mF.getD i (0,0,0):=by decide +kernel
theorem Mh:(bB mF [] []).map (fun c=>(c.map Prod.fst,ng c))=some (mF,true):=by decide +kernel
theorem Ml:iR mF=PI:=by decide +kernel
theorem Kf:tw (iR mF)*((2:Int):Rat)⁻¹=((1:Int):Rat):=by decide +kernel
theorem IK:vP mF=true:=by decide
theorem Mi:∀l∈mF,cE l=true:=by decide
theorem Dy {z:Int}(k:Nat)(hk:k≠0)(h:z.natAbs<=1):z.natAbs<2^k:=Nat.lt_of_le_of_lt h (Nat.one_lt_two_pow hk)
theorem JX {l:L3}(k:Nat)(hk:k≠0)(h:l.1.natAbs<=1/\l.2.1.natAbs<=1/\l.2.2.natAbs<=1):l.1.natAbs<2^k/\l.2.1.natAbs<2^k/\l.2.2.natAbs<2^k:=⟨Dy k hk h.1,Dy k hk h.2.1,Dy k hk h.2.2⟩
theorem IL:∀l∈mF,l.1.natAbs<=1/\l.2.1.natAbs<=1/\l.2.2.natAbs<=1:=by decide
theorem yv:∀l∈mF,Bd l:=fun l hl=>JX 1000 (by decide) (IL l hl)
theorem DR:∀x∈pG,Sz 2 x.1/\Sz 2 x.2:=by
 have h0:Sz 2 ((0:Int):Rat):=⟨by show (0:Int).natAbs<_;decide,by show (1:Nat)<_;decide⟩
 intro x hx
 simp only [pG,List.mem_cons,List.not_mem_nil,or_false] at hx
 rcases hx with rfl|rfl|rfl|rfl<;>exact ⟨by first|exact h0|exact gV,by first|exact h0|exact gV⟩
theorem IM:∀x∈PI,Sz 2 x.1/\Sz 2 x.2:=fun x hx=>DR x (by
 simp only [PI,List.mem_cons,List.not_mem_nil,or_false] at hx
 simp only [pG,List.mem_cons,List.not_mem_nil,or_false]
 rcases hx with rfl|rfl|rfl|rfl
 ·exact .inr (.inl rfl)
 ·exact .inr (.inr (.inl rfl))
 ·exact .inr (.inr (.inr rfl))
 ·exact .inl rfl)
theorem B1 {R:View->Value->Rat×Rat->Prop}{V:View}{a b c d:List Value}{p q r s:Rat×Rat}(la:a.length=6)(lb:b.length=6)(lc:c.length=6)(ld:d.length=6)(ha:R V (.agg a.toArray) p)(hb:R V (.agg b.toArray) q)(hc:R V (.agg c.toArray) r)(hd:R V (.agg d.toArray) s) :
  Row 6 R V (a++(b++(c++d))) [p,q,r,s]:=by
 have h1:=kE (sp:=[]) (row_one lc hc) (row_one ld hd) (by decide)
 have h2:=kE (sp:=[]) (row_one lb hb) h1 (by decide)
 have h3:=kE (sp:=[]) (row_one la ha) h2 (by decide)
 have tk:∀{x:List Value},x.length=6->x.take (1*6)=x:=fun h=>List.take_of_length_le (by omega)
 simp only [List.length_singleton,List.length_cons,List.length_nil,Nat.zero_add,tk la,tk lb,tk lc,List.append_nil,List.cons_append,List.nil_append] at h3
 exact h3
theorem lj {V:View}:ab prog 38 #[] V fun r V'=>∃(bk n c:Nat)(vs:List Value),r=.slice (mA bk c) n c/\(vs≠[]->V'.w.heap[bk]?=some (.cells vs.toArray 27 (0,0)))/\(vs≠[]->V.w.heap.size<=bk)/\GR 6 cF (V'.iw (vs≠[]) bk) n c vs mF:=by
 have xy:∀{W:View} (x y:Int),x.natAbs<=1->y.natAbs<=1->ab prog 12 #[.int .i64 x,.int .i64 y] W fun r V'=>RP V' r (x:Rat) (y:Rat):=fun x y h h'=>km x y (by omega) (by omega) (by omega) (by omega)
 refine rX V _ fun V1 l1=>(xy 0 0 (by decide) (by decide)).mono ?_
 rintro r V2 l2 g1
 have g10:sD V2 r (((0:Int):Rat),((0:Int):Rat)):=g1
 obtain ⟨_,_,_,_,_,_,_,_,_,_,_,_,_,_,rfl⟩:=g10.shape
 refine ⟨_,_,_,_,_,_,_,_,_,_,_,_,_,_,rfl,fun V3 l3=>(xy 1 0 (by decide) (by decide)).mono ?_⟩
 rintro r V4 l4 g2
 have g20:sD V4 r (((1:Int):Rat),((0:Int):Rat)):=g2
 obtain ⟨_,_,_,_,_,_,_,_,_,_,_,_,_,_,rfl⟩:=g20.shape
 refine ⟨_,_,_,_,_,_,_,_,_,_,_,_,_,_,rfl,fun V5 l5=>(xy 1 1 (by decide) (by decide)).mono ?_⟩
 rintro r V6 l6 g3
 have nw:sD V6 r (((1:Int):Rat),((1:Int):Rat)):=g3
 obtain ⟨_,_,_,_,_,_,_,_,_,_,_,_,_,_,rfl⟩:=nw.shape
 refine ⟨_,_,_,_,_,_,_,_,_,_,_,_,_,_,rfl,fun V7 l7=>(xy 0 1 (by decide) (by decide)).mono ?_⟩
 rintro r V8 l8 g4
 have He:sD V8 r (((0:Int):Rat),((1:Int):Rat)):=g4
 obtain ⟨_,_,_,_,_,_,_,_,_,_,_,_,_,_,rfl⟩:=He.shape
 have T6:=l7.trans l8
 have Jb:=l5.trans (l6.trans T6)
 have hrow:Row 6 sD V8 _ pG:=B1 (a:=[_,_,_,_,_,_]) (b:=[_,_,_,_,_,_]) (c:=[_,_,_,_,_,_]) (d:=[_,_,_,_,_,_]) rfl rfl rfl rfl (g10.le (l3.trans (l4.trans Jb))) (g20.le Jb) (nw.le T6) He
 refine ⟨_,_,_,_,_,_,_,_,_,_,_,_,_,_,rfl,fun z V'=>∃j:Nat,z.2.2.2.1=(j:Int)/\j<=4/\Row 6 sD V' z.2.2.2.2 pG/\GR 6 cF V' z.1 z.2.1 z.2.2.1 (mF.take j),fun z=>4-z.2.2.2.1.toNat,⟨(0,0,[],0,_),by and_intros<;>rfl,0,rfl,by omega,hrow,GR.nil⟩,?_⟩
 rintro ⟨z1,z2,vs,z4,ps⟩ V9 l9 ⟨j,e4,Hz,hps,hg⟩
 dsimp only at e4 hg hps
 subst e4
 have zl:=hg.len
 rw [List.length_take] at zl
 have hq4:mF.length=4:=rfl
 have XR:pG.length=4:=rfl
 refine ⟨rfl,fun hlt=>?_,fun hlt nZ bk dh hb hfr=>?_⟩
 ·have hlt:(j:Int)<4:=of_decide_eq_true hlt
  have hi:j<4:=by omega
  have w:i64.wrap ((j:Int)+1)=((j+1:Nat):Int):=by rw [ay (by omega)];rfl
  have hm:(((j+1:Nat):Int)).tmod (4:Int)=(((j+1)%4:Nat):Int):=by
   have:=Int.ofNat_tmod (j+1) 4
   exact this.symm
  dsimp only
  rw [w,hm]
  simp only [Int.toNat_natCast,Nat.zero_add]
  obtain ⟨b1,p1,n1,c1,p2,n2,c2,b2,p3,n3,c3,p4,n4,c4,lp,ep,gp⟩:=ID sD.shape hps (i:=j) (by omega)
  obtain ⟨b1',Ot,n1',c1',RT,RC,c2',b2',RU,RG,c3',WE,n4',U7,Wt,Pu,Vp⟩:=ID sD.shape hps (i:=(j+1)%4) (by omega)
  obtain ⟨hne,hth⟩:=Mk ⟨j,hi⟩
  have ej:pG.getD j (0,0)=pG[j]:=jd (by omega)
  have Vc:pG.getD ((j+1)%4) (0,0)=pG[(j+1)%4]:=jd (by omega)
  have el:mF.getD j (0,0,0)=mF[j]:=jd (by omega)
  have hne:¬((pG.getD j (0,0)).1=(pG.getD ((j+1)%4) (0,0)).1/\(pG.getD j (0,0)).2=(pG.getD ((j+1)%4) (0,0)).2):=hne
  have hth:DU (pG.getD j (0,0)).1 (pG.getD j (0,0)).2 (pG.getD ((j+1)%4) (0,0)).1 (pG.getD ((j+1)%4) (0,0)).2=mF.getD j (0,0,0):=hth
  rw [ej,Vc] at hne hth
  rw [el] at hth
  obtain ⟨s1,s2⟩:=DR _ (List.getElem_mem (show j<pG.length by omega))
  obtain ⟨s3,s4⟩:=DR _ (List.getElem_mem (show (j+1)%4<pG.length by omega))
  refine ⟨⟨by omega,by omega⟩,_,_,_,_,_,_,_,_,_,_,_,_,_,_,⟨lp,ep⟩,by decide,⟨by omega,by omega⟩,_,_,_,_,_,_,_,_,_,_,_,_,_,_,⟨Wt,Pu⟩,fun jm l10=>(F7 (sD.le gp l10) (sD.le Vp l10) s1 s2 s3 s4 (by omega) (by omega)).mono ?_⟩
  rintro r kR bW ⟨-,hr⟩
  obtain ⟨l,rfl,gl⟩:=hr hne
  have Tt:cF kR l mF[j]:=by rw [←hth];exact gl
  obtain ⟨_,_,_,_,_,_,_,_,_,_,_,_,rfl⟩:=bA Tt
  refine ⟨_,_,_,_,_,_,_,_,_,_,_,_,_,rfl,by omega,hg.le,hg.cap,rfl,JW,fun sp c' h1 h2=>⟨(z1+1,c',_,((j+1:Nat):Int),ps),by dsimp only;omega,by and_intros<;>first|rfl|trivial,j+1,rfl,by omega,hps.le fun _ _ g=>sD.le g (l10.trans bW),?_⟩⟩
  dsimp only
  rw [List.take_add_one,List.getElem?_eq_getElem (by omega)]
  exact (hg.mono (V':=kR) fun _ _ g=>cF.le g (l10.trans bW)).snoc rfl Tt (by decide) h1 h2
 ·have hlt:¬(j:Int)<4:=of_decide_eq_false hlt
  obtain rfl:j=4:=by omega
  exact ⟨bk,z1,z2,vs,rfl,hb,fun h=>(hfr h).elim id False.elim,hg.mono fun _ _ g=>cF.le g dh⟩
set_option maxHeartbeats 1000000 in
theorem mP {V:View}{yi ye yu:Value}(E:Er V yi ye yu):ab prog 14 #[] V fun r V'=>r=.bool true:=by
 have xy:∀{W:View} (x y:Int),x.natAbs<=1->y.natAbs<=1->ab prog 12 #[.int .i64 x,.int .i64 y] W fun r V'=>RP V' r (x:Rat) (y:Rat):=fun x y h h'=>km x y (by omega) (by omega) (by omega) (by omega)
 obtain ⟨cs,hcs,e1⟩:=Option.map_eq_some_iff.1 Mh
 obtain ⟨e1,e2⟩:=Prod.mk.inj e1
 refine vC V _ fun V1 l1=>lj.mono ?_
 rintro r V2 l2 ⟨bm,n,c,vm,rfl,f1,f2,hg⟩
 refine ⟨bm,vm,f1,fun h=>.inl (f2 h),none,n,c,rfl,fun V3 l3 bk hbk=>?_⟩
 have dL:V1.Le V3:=(oQ l2 fun h=>.inl (f2 h)).trans l3
 have hL:cP 6 cF V3 (mA bk c) n mF:=by
  rw [hg.len]
  exact cP.fE hbk (hg.row.le fun _ _ g=>cF.le g fun b o h=>l3 b o h) (by decide) (by have:=hg.le;have:=hg.len;omega)
 refine (mT hL (by decide) yv).mono ?_
 rintro r V4 l4 ⟨q,m,e,rfl,hW⟩
 have L4:=l1.trans (dL.trans l4)
 refine ⟨_,_,_,rfl,fun J V5 l5=>(jn (cP.q (hW.le l5 fun _ _ g=>cF.le g l5)) yv (E.le (L4.trans l5))).mono ?_⟩
 rintro r V6 l6 hA
 obtain ⟨-,hA⟩:=hA.some IK hcs
 obtain ⟨wa,rfl,gA,sA⟩:=hA e2
 rw [e1,Kf] at gA
 have QB:=gA
 obtain ⟨_,_,_,_,_,_,_,rfl⟩:=gA.shape
 have l46:=l5.trans l6
 refine ⟨_,_,_,_,_,_,_,_,rfl,fun V7 l7=>(tE (cP.q (hW.le (l46.trans l7) fun _ _ g=>cF.le g (l46.trans l7))) yv (E.le (L4.trans (l46.trans l7)))).mono ?_⟩
 rintro r V8 l8 hC0
 obtain ⟨q1,m1,d1,rfl,hC,-⟩:=hC0.some IK hcs
 clear hC0
 rw [e1] at hC
 have Jb:=l46.trans (l7.trans l8)
 refine ⟨_,_,_,_,rfl,fun V9 l9=>(oB (cP.q (hW.le (Jb.trans l9) fun _ _ g=>cF.le g (Jb.trans l9))) yv (E.le (L4.trans (Jb.trans l9)))).mono ?_⟩
 rintro r jm l10 Nr
 obtain ⟨q2,m2,d2,rfl,hV,-⟩:=Nr.some IK hcs
 clear Nr
 rw [e1,Ml] at hV
 have xX:=l9.trans l10
 have NZ:=Jb.trans xX
 refine ⟨_,_,_,_,rfl,dm.1,fun _=>⟨dm.1,fun _=>⟨dm.1,fun _ kR bW=>?_,fun h=>by cases h⟩,fun h=>by cases h⟩,fun h=>by cases h⟩
 refine (ze (hW.le (NZ.trans bW) fun _ _ g=>cF.le g (NZ.trans bW)) (hC.le (xX.trans bW) fun _ _ g=>cF.le g (xX.trans bW)) (by decide) yv).mono ?_
 rintro r nZ dh rfl
 have N0:=l7.trans (l8.trans (xX.trans (bW.trans dh)))
 refine ⟨_,rfl,fun _ sY dL=>(yP (QB.le (N0.trans dL)) (k:=2) gV (by omega)).mono ?_,fun h=>by cases h⟩
 rintro r pF fk gq
 have Nk:=gq
 obtain ⟨_,_,_,_,_,_,rfl⟩:=gq.shape
 refine ⟨_,_,_,_,_,_,_,rfl,fun n_ eZ=>(jH 1 (by omega) (by omega)).mono ?_⟩
 rintro r oa eF g1
 have g10:=g1
 obtain ⟨_,_,_,_,_,_,rfl⟩:=g1.shape
 refine ⟨_,_,_,_,_,_,_,rfl,fun pH ew=>(sG (Nk.le (eZ.trans (eF.trans ew))) (g10.le ew) gV gV (by omega)).mono ?_⟩
 rintro r sE fo rfl
 have HB:=dL.trans (fk.trans (eZ.trans (eF.trans (ew.trans fo))))
 refine ⟨_,rfl,fun _ xh fl=>(xy 1 0 (by decide) (by decide)).mono ?_,fun h=>by
  rw [show fJ ((1:Int):Rat) ((1:Int):Rat)=0 from gO.1 rfl] at h;cases h⟩
 rintro r CF jN h1
 have h10:sD CF r (((1:Int):Rat),((0:Int):Rat)):=h1
 obtain ⟨_,_,_,_,_,_,_,_,_,_,_,_,_,_,rfl⟩:=h10.shape
 refine ⟨_,_,_,_,_,_,_,_,_,_,_,_,_,_,rfl,fun xi gG=>(xy 1 1 (by decide) (by decide)).mono ?_⟩
 rintro r vO kO h2
 have h20:sD vO r (((1:Int):Rat),((1:Int):Rat)):=h2
 obtain ⟨_,_,_,_,_,_,_,_,_,_,_,_,_,_,rfl⟩:=h20.shape
 refine ⟨_,_,_,_,_,_,_,_,_,_,_,_,_,_,rfl,fun CG je=>(xy 0 1 (by decide) (by decide)).mono ?_⟩
 rintro r Jf Dr h3
 have TC:sD Jf r (((0:Int):Rat),((1:Int):Rat)):=h3
 obtain ⟨_,_,_,_,_,_,_,_,_,_,_,_,_,_,rfl⟩:=TC.shape
 refine ⟨_,_,_,_,_,_,_,_,_,_,_,_,_,_,rfl,fun I9 sM=>(xy 0 0 (by decide) (by decide)).mono ?_⟩
 rintro r Kw Aw h4
 have Py:sD Kw r (((0:Int):Rat),((0:Int):Rat)):=h4
 obtain ⟨_,_,_,_,_,_,_,_,_,_,_,_,_,_,rfl⟩:=Py.shape
 have HF:=sM.trans Aw
 have zA:=je.trans (Dr.trans HF)
 refine ⟨_,_,_,_,_,_,_,_,_,_,_,_,_,_,rfl,fun Mw mV bk hb=>?_⟩
 have hrow:Row 6 sD Mw _ PI:=B1 (a:=[_,_,_,_,_,_]) (b:=[_,_,_,_,_,_]) (c:=[_,_,_,_,_,_]) (d:=[_,_,_,_,_,_]) rfl rfl rfl rfl (h10.le (gG.trans (kO.trans (zA.trans mV)))) (h20.le (zA.trans mV)) (TC.le (HF.trans mV)) (Py.le mV)
 refine (y_ (cP.H8 hb hrow) (by decide) IM (by omega)).mono ?_
 rintro r K7 Gv ⟨q3,m3,d3,rfl,hP⟩
 refine ⟨_,_,_,rfl,fun _ Pr CI=>(tJ (hV.le (bW.trans (dh.trans (HB.trans (fl.trans (jN.trans (gG.trans (kO.trans (zA.trans (mV.trans (Gv.trans CI)))))))))) fun _ _ g=>fM.le g (bW.trans (dh.trans (HB.trans (fl.trans (jN.trans (gG.trans (kO.trans (zA.trans (mV.trans (Gv.trans CI)))))))))) ) (hP.le CI fun _ _ g=>fM.le g CI) (by decide) IM (by omega)).mono ?_⟩
 rintro r Kx Dt rfl
 exact ⟨_,rfl,fun SN KO=>rfl⟩
theorem Qo {V:View}{tb:Nat}{p:OA}{n c:Nat}{at_:Int}(hr:Gn V p n)(hn:n<=400)(hw:oh V tb p n c at_)(hx:V.X tb)(h0:0<=at_) :
  ab prog 72 #[.pointer (some ⟨tb,0,none⟩),.int .i64 7] V fun r V'=>∃(at':Int)(ls:List L3)(bk n' c':Nat)(vs:List Value),0<=at'/\oh V' tb p n c at'/\r=.slice (mA bk c') n' c' /\
   (vs≠[]->V'.w.heap[bk]?=some (.cells vs.toArray 27 (0,0)))/\(vs≠[]->V.w.heap.size<=bk)/\GR 6 cF (V'.iw (vs≠[]) bk) n' c' vs ls/\ls.length<=7/\∀l∈ls,cE l=true/\Bd l:=by
 have w8:i64.wrap ((7:Int)+1)=8:=ay (by omega)
 refine qF tb p n c at_ 7 V _ hw hx fun V1 l1 bk1 e1 h1=>?_
 rw [w8]
 refine (pO (V:=V1.bg [bk1]) 8 (hr.le fun b o h=>l1 b o h) hn e1 ⟨by simp,h1⟩ h0 (by omega) (by omega)).mono ?_
 rintro r V2 l2 ⟨x,Gp,rfl,x0,x1,t1,hw1⟩
 refine ⟨_,rfl,p,n,c,Gp,hw1,fun z V'=>∃(ls:List L3),z.2.2.2.2.1=p/\z.2.2.2.2.2.1=n/\z.2.2.2.2.2.2.1=c/\0<=z.2.2.2.2.2.2.2/\0<=z.2.2.2.1/\(ls.length:Int)+z.2.2.2.1<=7/\GR 6 cF V' z.1 z.2.1 z.2.2.1 ls/\(∀l∈ls,cE l=true/\Bd l),fun z=>z.2.2.2.1.toNat,
  ⟨(0,0,[],x,p,n,c,Gp),by and_intros<;>rfl,[],rfl,rfl,rfl,t1,x0,by simp;omega,GR.nil,fun l hl=>by cases hl⟩,?_⟩
 rintro ⟨z1,z2,vs,i,zp,zn,zc,za⟩ V3 l3 ⟨ls,e5,e6,e7,ha,hi0,VM,hg,hls⟩
 dsimp only at e5 e6 e7 ha hi0 VM hg
 subst e5 e6 e7
 have je:V1.Le V3:=fun b o h=>l3 b o (l2 b o h)
 refine ⟨rfl,fun hlt V4 l4 U4 e9 h9=>?_,fun hlt V6 bk VC e6 f1 f2=>?_⟩
 ·have hlt:i>0:=of_decide_eq_true hlt
  have w:i64.wrap (i-1)=i-1:=ay (by omega)
  refine (Td (V:=V4.bg [U4]) (hr.le fun b o h=>l4 b o (je b o (l1 b o h))) hn e9 ⟨by simp,h9⟩ ha).mono ?_
  rintro r V5 l5 ⟨l,at2,hl,ok,bd,t2,hw2⟩
  have hl0:cF V5 r l:=hl
  obtain ⟨_,_,_,_,_,_,_,_,_,_,_,_,rfl⟩:=bA hl0
  have zl:=hg.len
  rw [w]
  refine ⟨_,_,_,_,_,_,_,_,_,_,_,_,rfl,zp,zn,zc,at2,hw2,by omega,hg.le,hg.cap,rfl,JW,fun sp c' k1 k2=>⟨(z1+1,c',_,i-1,zp,zn,zc,at2),by dsimp only;omega,by and_intros<;>rfl,ls++[l],rfl,rfl,rfl,t2,by dsimp only;omega,?_,?_,?_⟩⟩
  ·dsimp only
   rw [List.length_append,List.length_singleton]
   omega
  ·exact (hg.mono (V':=V5.shut) fun _ _ g=>cF.le (V:=V3) (V':=V5.shut) g fun b o h=>l5 b o (l4 b o h)).snoc rfl (cF.le (V:=V5) (V':=V5.shut) hl0 fun b o h=>h) (by decide) k1 k2
  ·intro y hy
   rcases List.mem_append.1 hy with hy|hy
   ·exact hls y hy
   ·rw [List.mem_singleton.1 hy];exact ⟨ok,bd⟩
 ·have hlt:¬i>0:=of_decide_eq_false hlt
  exact ⟨za,ls,bk,z1,z2,vs,ha,e6,rfl,f1,fun h=>(f2 h).elim id False.elim,hg.mono fun _ _ g=>cF.le g VC,by omega,hls⟩
theorem EE:Sz 10 (mkRat 1 7)/\Sz 10 (mkRat 1 5):=by unfold Sz;decide +kernel
set_option maxHeartbeats 1000000 in
theorem Lg {V:View}{tb:Nat}{p:OA}{n c:Nat}{at_:Int}(hr:Gn V p n)(hn:n<=400)(hw:oh V tb p n c at_)(hx:V.X tb)(h0:0<=at_) :
  ab prog 20 #[.pointer (some ⟨tb,0,none⟩)] V fun r V'=>∃(at':Int)(ls:List L3)(q:OA)(m e:Nat),0<=at'/\oh V' tb p n c at'/\r=.slice q m e/\cP 6 cF V' q m ls/\ls.length<=7/\∀l∈ls,cE l=true/\Bd l:=by
 refine wP tb p n c at_ V _ hw hx fun V1 l1 bk1 e1 h1=>(Qo (V:=V1.bg [bk1]) (hr.le fun b o h=>l1 b o h) hn e1 ⟨by simp,h1⟩ h0).mono ?_
 rintro r V2 l2 ⟨Gp,ls,bm,n1,c1,vm,t1,hw1,rfl,f1,f2,hg,hlen,hls⟩
 have f2':vm≠[]->V1.w.heap.size<=bm:=f2
 have zl:=hg.len
 have PR:=hg.le
 have Xs:=hg.cap
 refine ⟨bm,vm,f1,fun h=>.inl (f2' h),none,n1,c1,rfl,p,n,c,Gp,hw1,fun V3 l3 Ql e3 h3=>?_⟩
 have dL:V1.Le V3:=fun b o hb=>l3 b o (oQ (V:=V1.bg [bk1]) l2 (fun h=>.inl (f2' h)) b o hb)
 have hg3:GR 6 cF V3 n1 c1 vm ls:=hg.mono fun _ _ g=>cF.le g fun b o h=>l3 b o h
 have TX:=l1.trans dL
 refine (pO (V:=V3.bg [Ql]) 3 (hr.le fun b o h=>TX b o h) hn e3 ⟨by simp,h3⟩ t1 (by omega) (by omega)).mono ?_
 rintro r V4 l4 ⟨x,at2,rfl,x0,x1,t2,hw2⟩
 refine ⟨_,rfl,p,n,c,at2,hw2,fun hz V5 l5 Qe e5 hb=>?_,fun hz V6 l6 Qf e6 h6=>?_⟩
 ·have Rn:V3.Le V5:=fun b o h=>l5 b o (l4 b o h)
  refine ⟨at2,ls,mA Qe c1,n1,c1,t2,e5,rfl,?_,hlen,hls⟩
  rw [zl]
  exact cP.fE hb (hg3.row.le fun _ _ g=>cF.le g Rn) (by decide) (by omega)
 have MJ:V3.Le V6:=fun b o h=>l6 b o (l4 b o h)
 have NW:=TX.trans MJ
 refine (Tf (V:=V6.bg [Qf]) (hr.le fun b o h=>NW b o h) hn e6 ⟨by simp,h6⟩ t2).mono ?_
 rintro r V7 l7 ⟨q1,at3,g7,s7,t3,hw3⟩
 have JA:=g7
 obtain ⟨_,_,_,_,_,_,rfl⟩:=g7.shape
 refine ⟨_,_,_,_,_,_,_,rfl,p,n,c,at3,hw3,fun V8 l8=>(kk 1 7 (by omega) (by omega) (by omega) (by omega)).mono ?_⟩
 rintro r V9 l9 g9
 have Vi:=g9
 obtain ⟨_,_,_,_,_,_,rfl⟩:=g9.shape
 have N1:V7.Le V9:=fun b o h=>l9 b o (l8 b o h)
 have Ru:V6.Le V9:=fun b o h=>N1 b o (l7 b o h)
 refine ⟨_,_,_,_,_,_,_,rfl,fun jm l10=>(dj (JA.le (N1.trans l10)) (Vi.le l10) s7 EE.1 (by omega)).mono ?_⟩
 rintro r kR bW g11
 have Qs:=g11
 obtain ⟨_,_,_,_,_,_,rfl⟩:=g11.shape
 have uP:Sz 40 (q1+mkRat 1 7):=(s7.add EE.1).mono (by omega)
 have KP:=Ru.trans (l10.trans bW)
 refine ⟨_,_,_,_,_,_,_,rfl,fun nZ dh Qj e12 h12=>(Tf (V:=nZ.bg [Qj]) (hr.le fun b o h=>dh b o (KP b o (NW b o h))) hn e12 ⟨by simp,h12⟩ t3).mono ?_⟩
 rintro r sY FP ⟨q2,at4,g13,s13,t4,hw4⟩
 have Qt:=g13
 obtain ⟨_,_,_,_,_,_,rfl⟩:=g13.shape
 have LO:kR.Le sY:=fun b o h=>FP b o (dh b o h)
 refine ⟨_,_,_,_,_,_,_,rfl,p,n,c,at4,hw4,fun pF fk=>(kk 1 5 (by omega) (by omega) (by omega) (by omega)).mono ?_⟩
 rintro r n_ eZ g15
 have Qu:=g15
 obtain ⟨_,_,_,_,_,_,rfl⟩:=g15.shape
 have HC:sY.Le n_:=fun b o h=>eZ b o (fk b o h)
 refine ⟨_,_,_,_,_,_,_,rfl,fun oa eF=>(dj (Qt.le (HC.trans eF)) (Qu.le eF) s13 EE.2 (by omega)).mono ?_⟩
 rintro r pH ew g17
 have Qv:=g17
 obtain ⟨_,_,_,_,_,_,rfl⟩:=g17.shape
 have WO:Sz 40 (q2+mkRat 1 5):=(s13.add EE.2).mono (by omega)
 have HA:=LO.trans (HC.trans (eF.trans ew))
 have NY:=MJ.trans (KP.trans HA)
 refine ⟨_,_,_,_,_,_,_,rfl,fun z V'=>∃(j:Nat)(ms:List L3),z.1=(j:Int)/\j<=n1/\ms.length=ls.length/\Row 6 cF V' z.2 ms/\z.2.length=vm.length/\∀l∈ms,cE l=true/\Bd l,fun z=>n1-z.1.toNat,⟨(0,vm),by and_intros<;>rfl,0,ls,rfl,Nat.zero_le _,rfl,hg3.row.le fun _ _ g=>cF.le g NY,rfl,hls⟩,?_⟩
 rintro ⟨z1,vs⟩ sE fo ⟨j,ms,Ll,Hz,hml,hrow,hvl,hms⟩
 dsimp only at Ll hrow hvl
 subst Ll
 refine ⟨rfl,fun hlt=>?_,fun hlt CG je bk e23 hb=>?_⟩
 ·have hlt:(j:Int)<n1:=of_decide_eq_true hlt
  have hj:j<ms.length:=by omega
  have w:i64.wrap ((j:Int)+1)=((j+1:Nat):Int):=by rw [ay (by omega)];rfl
  dsimp only
  rw [Int.toNat_natCast,w]
  obtain ⟨b1,p1,n1',c1',b2,p2,n2,c2,b3,p3,n3,c3,fm,Nb,hl⟩:=Mg hrow hj
  obtain ⟨ok,bd⟩:=hms _ (List.getElem_mem hj)
  have hp:RP sE _ (q1+mkRat 1 7) (q2+mkRat 1 5):=⟨_,_,_,_,_,_,_,_,_,_,_,_,rfl,Qs.le (HA.trans fo),Qv.le fo⟩
  refine ⟨⟨by omega,by omega⟩,PR,b1,p1,n1',c1',b2,p2,n2,c2,b3,p3,n3,c3,⟨fm,Nb⟩,fun xh fl=>(Mc (L:=ms[j]) (hl.le fl) (hp.le fl) (k:=1000) bd.rj (uP.mono (by omega)) (WO.mono (by omega)) (by omega)).mono ?_⟩
  rintro r CF jN rfl
  have Dq:=fl.trans jN
  refine ⟨_,rfl,fun hc xi gG=>(qQ (a:=ms[j].1) (b:=ms[j].2.1) (c:=ms[j].2.2) (hl.le (Dq.trans gG))).mono ?_,fun hc=>⟨(((j+1:Nat):Int),vs),by dsimp only;omega,by and_intros<;>rfl,j+1,ms,rfl,by omega,hml,hrow.le fun _ _ g=>cF.le g Dq,hvl,hms⟩⟩
  rintro r vO kO gr
  have Nl:cF vO r (bE ms[j]):=gr
  obtain ⟨_,_,_,_,_,_,_,_,_,_,_,_,rfl⟩:=bA Nl
  have LQ:=Dq.trans (gG.trans kO)
  refine ⟨_,_,_,_,_,_,_,_,_,_,_,_,rfl,⟨by omega,by omega⟩,PR,fm,(((j+1:Nat):Int),dp vs (j*6) [_,_,_,_,_,_]),by dsimp only;omega,by and_intros<;>rfl,j+1,ms.set j (bE ms[j]),rfl,by omega,by rw [List.length_set];exact hml,?_,?_,?_⟩
  ·exact (hrow.le (V':=vO) fun _ _ g=>cF.le g LQ).put hj (by decide) rfl Nl
  ·exact (rf (xs:=[_,_,_,_,_,_]) fm).trans hvl
  ·intro y hy
   rcases List.mem_or_eq_of_mem_set hy with hy|rfl
   ·exact hms y hy
   ·exact ⟨uF ok,bd.rev⟩
 ·refine ⟨at4,ms,mA bk c1,n1,c1,t4,e23,rfl,?_,by omega,hms⟩
  have e:n1=ms.length:=by omega
  rw [e]
  exact cP.fE hb (hrow.le fun _ _ g=>cF.le g je) (by decide) (by omega)
end Go.Proofs.Tryz
namespace Go.Proofs.Tryz
open Go.bF
set_option maxRecDepth 100000
end Go.Proofs.Tryz
namespace Go.Proofs.Tryz
open Go.bF Go.eK
def I7 (V:View)(w:Value)(p:Rat×Rat):Prop:=(∃b q n c q' n' c' d r m e r' m' e',w=.agg #[.bool b,.slice q n c,.slice q' n' c',.bool d,.slice r m e,.slice r' m' e']) /\
 ∀V1,V.Le V1->ab prog 115 #[w] V1 fun r V'=>nY V' r p.1 p.2
theorem I7.le {V V':View}{w:Value}{p:Rat×Rat}(h:I7 V w p)(l:V.Le V'):I7 V' w p:=⟨h.1,fun V1 l1=>h.2 V1 (l.trans l1)⟩
theorem I7.of {V:View}{w:Value}{p:Rat×Rat}(h:Gy V w p.1 p.2){k:Nat}(s1:Sz k p.1)(s2:Sz k p.2)(hk:k<=1099511627776):I7 V w p:=by
 refine ⟨?_,fun V1 l1=>CZ (h.le l1) s1 s2 hk⟩
 obtain ⟨b,q,n,c,q',n',c',d,r,m,e,r',m',e',rfl,-⟩:=h
 exact ⟨_,_,_,_,_,_,_,_,_,_,_,_,_,_,rfl⟩
theorem I7.raw {V:View}{b d:Bool}{q q' r r':OA}{n c n' c' m e m' e':Nat}{xs ys us vs:List Nat}(h1:RD V q n c xs)(h2:RD V q' n' c' ys)(h3:RD V r m e us)(h4:RD V r' m' e' vs)(k1:xs.length<=1000000)(k2:ys.length<=1000000)(k3:us.length<=1000000)(k4:vs.length<=1000000) :
  I7 V (.agg #[.bool b,.slice q n c,.slice q' n' c',.bool d,.slice r m e,.slice r' m' e']) (mkRat (aT b xs) (val ys),mkRat (aT d us) (val vs)):=by
 refine ⟨⟨_,_,_,_,_,_,_,_,_,_,_,_,_,_,rfl⟩,fun V0 l0=>?_⟩
 refine rC b q n c q' n' c' d r m e r' m' e' V0 _ fun V1 l1=>(nj b (h1.le (l0.trans l1)) (h2.le (l0.trans l1)) (by omega) (by omega)).mono ?_
 rintro r V2 l2 g
 have g0:=g
 obtain ⟨x1,x2,x3,rfl⟩:=g.shape
 refine ⟨_,_,_,rfl,fun V3 l3=>(nj d (h3.le (l0.trans (l1.trans (l2.trans l3)))) (h4.le (l0.trans (l1.trans (l2.trans l3)))) (by omega) (by omega)).mono ?_⟩
 rintro r V4 l4 g'
 have g0':=g'
 obtain ⟨y1,y2,y3,rfl⟩:=g'.shape
 exact ⟨_,_,_,rfl,fun V5 l5=>⟨_,_,_,_,_,_,rfl,g0.le (l3.trans (l4.trans l5)),g0'.le l5⟩⟩
theorem I7.zero {V:View}:I7 V (.agg #[.bool false,.slice none 0 0,.slice none 0 0,.bool false,.slice none 0 0,.slice none 0 0]) (0,0):=by
 have e:mkRat (aT false []) (val [])=0:=by decide
 have:=@I7.raw V false false none none none none 0 0 0 0 0 0 0 0 [] [] [] [] RD.nil RD.nil RD.nil RD.nil (by decide) (by decide) (by decide) (by decide)
 rw [e] at this
 exact this
theorem mM {V:View}{p:OA}{n c:Nat}{ls:List L3}(h:cP 6 og V p n ls)(hb:∀l∈ls,Bd l){lv:Value}{l:L3}(hl:cF V lv l)(hbl:Bd l)(hok:cE l=true){yi ye yu:Value}(E:Er V yi ye yu) :
  ab prog 77 #[.agg #[.slice p n c],lv] V fun r V'=>∃w,sW V' w l/\Az ls (r=.tuple #[.slice none 0 0,w,yi]) (r=.tuple #[.slice none 0 0,w,ye]) fun cs=>(∃q m e,r=.tuple #[.slice q m e,w,.nilIface]/\cP 17 fL V' q m cs/\m<=e)/\dS ls.reverse cs/\cs.length<=100000:=by
 have hl0:=hl
 obtain ⟨_,_,_,_,_,_,_,_,_,_,_,_,rfl⟩:=bA hl
 refine vg p n c _ _ _ _ _ _ _ _ _ _ _ _ V _ fun V1 l1=>(qM (x:=l) (hl0.le l1) hbl).mono ?_
 rintro r V2 l2 ⟨w,rfl,⟨_,_,_,_,_,_,_,_,_,rfl⟩,hw⟩
 have hw:=hw hok
 rw [hok]
 refine ⟨_,_,_,_,_,_,_,_,_,_,rfl,(fun hf=>by cases hf),fun _ V4 l4=>(fW (h.le (l1.trans (l2.trans l4)) fun _ _ g=>og.le g (l1.trans (l2.trans l4))) hb (E.le (l1.trans (l2.trans l4)))).mono ?_⟩
 rintro r V5 l5 (⟨ho,rfl⟩|⟨ho,hc,rfl⟩|⟨ho,cs,hc,⟨q,m,e,rfl,hL,hm⟩,hC,hl⟩)
 ·exact ⟨_,_,_,_,rfl,fun V6 l6=>⟨_,sC.le hw (l4.trans (l5.trans l6)),.inl ⟨ho,rfl⟩⟩⟩
 ·exact ⟨_,_,_,_,rfl,fun V6 l6=>⟨_,sC.le hw (l4.trans (l5.trans l6)),.inr (.inl ⟨ho,hc,rfl⟩)⟩⟩
 ·exact ⟨_,_,_,_,rfl,fun V6 l6=>⟨_,sC.le hw (l4.trans (l5.trans l6)),.inr (.inr ⟨ho,cs,hc,⟨_,_,_,rfl,hL.le l6 fun _ _ g=>fL.le g l6,hm⟩,hC,hl⟩)⟩⟩
theorem mL {V:View}{p:OA}{n c:Nat}{ls:List L3}(h:cP 6 og V p n ls)(hb:∀l∈ls,Bd l)(hlen:ls.length<=1000){lv:Value}{l:L3}(hl:cF V lv l)(hbl:Bd l)(hok:cE l=true){yi ye yu:Value}(E:Er V yi ye yu) :
  ab prog 40 #[.agg #[.slice p n c],lv] V fun r V'=>Az ls (r=.tuple #[.agg #[.slice none 0 0],yi]) (r=.tuple #[.agg #[.slice none 0 0],ye]) fun cs=>
   (bo cs l=none->r=.tuple #[.agg #[.slice none 0 0],ye])/\∀c',bo cs l=some c'->∃q m e,r=.tuple #[.agg #[.slice q m e],.nilIface]/\cP 6 cF V' q m (c'.map Prod.fst):=by
 have hl0:=hl
 obtain ⟨_,_,_,_,_,_,_,_,_,_,_,_,rfl⟩:=bA hl
 refine ve p n c _ _ _ _ _ _ _ _ _ _ _ _ V _ fun V1 l1=>(mM (h.le l1 fun _ _ g=>og.le g l1) hb (hl0.le l1) hbl hok (E.le l1)).mono ?_
 rintro r V2 l2 ⟨w,hw,(⟨ho,rfl⟩|⟨ho,hc,rfl⟩|⟨ho,cs,hc,⟨q,m,e,rfl,hL,hm⟩,hC,hl⟩)⟩
 ·obtain ⟨i1,i2⟩:=iq E.si
  obtain ⟨_,_,_,_,_,_,_,_,_,rfl,-⟩:=hw
  exact ⟨_,_,_,_,_,_,_,_,_,_,_,_,_,rfl,i1,fun _ V3 l3=>.inl ⟨ho,rfl⟩,fun hf=>by rw [i2] at hf;cases hf⟩
 ·obtain ⟨i1,i2⟩:=iq E.se
  obtain ⟨_,_,_,_,_,_,_,_,_,rfl,-⟩:=hw
  exact ⟨_,_,_,_,_,_,_,_,_,_,_,_,_,rfl,i1,fun _ V3 l3=>.inr (.inl ⟨ho,hc,rfl⟩),fun hf=>by rw [i2] at hf;cases hf⟩
 ·have hw0:=hw
  have L2:=l1.trans l2
  obtain ⟨_,_,_,_,_,_,_,_,_,rfl,-⟩:=hw
  refine ⟨_,_,_,_,_,_,_,_,_,_,_,_,_,rfl,dm.1,(fun hf=>by cases hf),fun _ V4 l4=>(qK (hL.le l4 fun _ _ g=>fL.le g l4) (hw0.le l4) hbl (by omega) hC.jA).mono ?_⟩
  rintro r V5 l5 ⟨q',m',e',rfl,hr⟩
  refine ⟨_,_,_,_,rfl,fun hf=>⟨ye,⟨_,rfl,(E.le (L2.trans (l4.trans l5))).emp⟩,fun V6 l6=>.inr (.inr ⟨ho,cs,hc,fun _=>rfl,fun c' e=>?_⟩)⟩,fun hf=>?_⟩
  ·rw [e] at hf;cases hf
  ·have hf:(bo cs l).isSome=true:=by simpa using hf
   obtain ⟨c',ec⟩:=Option.isSome_iff_exists.1 hf
   obtain ⟨hL',hcap⟩:=hr c' ec
   have LV:=mf ec
   have Rw:=me hc
   rw [List.length_nil] at Rw
   have hml:=hL'.len
   refine ⟨fun hg=>?_,fun hg V8 l8=>(tz (hL'.le l8 fun _ _ g=>fL.le g l8) (by omega)).mono ?_⟩
   ·have hg:=of_decide_eq_true hg;omega
   ·rintro r V9 l9 ⟨q2,m2,e2,rfl,g,-⟩
    refine ⟨_,_,_,rfl,fun jm l10=>.inr (.inr ⟨ho,cs,hc,(fun e=>by rw [e] at ec;cases ec),fun c2 e=>?_⟩)⟩
    rw [ec] at e
    cases e
    exact ⟨_,_,_,rfl,g.le l10 fun _ _ g=>cF.le g l10⟩
theorem tF {V:View}{p:OA}{n c:Nat}{ls:List L3}(h:cP 6 og V p n ls)(hb:∀l∈ls,Bd l){lv:Value}{l:L3}(hl:cF V lv l)(hbl:Bd l)(hok:cE l=true){yi ye yu:Value}(E:Er V yi ye yu) :
  ab prog 22 #[.agg #[.slice p n c],lv] V fun r V'=>Az ls (r=.tuple #[.int .i64 0,yi]) (r=.tuple #[.int .i64 0,ye]) fun cs=>r=.tuple #[.int .i64 (FZ cs l),.nilIface]:=by
 have hl0:=hl
 obtain ⟨_,_,_,_,_,_,_,_,_,_,_,_,rfl⟩:=bA hl
 refine rN p n c _ _ _ _ _ _ _ _ _ _ _ _ V _ fun V1 l1=>(mM (h.le l1 fun _ _ g=>og.le g l1) hb (hl0.le l1) hbl hok (E.le l1)).mono ?_
 rintro r V2 l2 ⟨w,hw,(⟨ho,rfl⟩|⟨ho,hc,rfl⟩|⟨ho,cs,hc,⟨q,m,e,rfl,hL,hm⟩,hC,hl⟩)⟩
 ·obtain ⟨i1,i2⟩:=iq E.si
  obtain ⟨_,_,_,_,_,_,_,_,_,rfl,-⟩:=hw
  exact ⟨_,_,_,_,_,_,_,_,_,_,_,_,_,rfl,i1,fun _ V3 l3=>.inl ⟨ho,rfl⟩,fun hf=>by rw [i2] at hf;cases hf⟩
 ·obtain ⟨i1,i2⟩:=iq E.se
  obtain ⟨_,_,_,_,_,_,_,_,_,rfl,-⟩:=hw
  exact ⟨_,_,_,_,_,_,_,_,_,_,_,_,_,rfl,i1,fun _ V3 l3=>.inr (.inl ⟨ho,hc,rfl⟩),fun hf=>by rw [i2] at hf;cases hf⟩
 ·have hw0:=hw
  obtain ⟨_,_,_,_,_,_,_,_,_,rfl,-⟩:=hw
  refine ⟨_,_,_,_,_,_,_,_,_,_,_,_,_,rfl,dm.1,(fun hf=>by cases hf),fun _ V4 l4=>(ou (hL.le l4 fun _ _ g=>fL.le g l4) (hw0.le l4) hbl (by omega)).mono ?_⟩
  rintro r V5 l5 rfl
  exact ⟨_,rfl,fun V6 l6=>.inr (.inr ⟨ho,cs,hc,rfl⟩)⟩
def EF (V:View):View:=⟨V.w,fun b=>b<V.w.heap.size,fun _=>False,fun _ h=>h,fun _ h=>h.elim⟩
theorem CP {f:FuncId}{args:Array Value}{V:View}{o:Obj}(h:ab prog f args (EF V) fun r V'=>∃bk,r=.pointer (some ⟨bk,0,none⟩)/\V'.bC bk o) :
  ab prog f args V fun r V'=>∃bk,r=.pointer (some ⟨bk,0,none⟩)/\V.w.heap.size<=bk/\V'.bC bk o:=
 ⟨h.1,h.2.mono fun _ _ ⟨_,he,hx,bk,hr,hb⟩=>⟨_,he,⟨hx.size,fun b hb _=>hx.bC b hb (fun h=>h),hx.os,hx.tape,hx.out⟩,bk,hr,Nat.le_of_not_lt hb.1,fun hh=>hb.1 (V.hH bk hh),hb.2⟩⟩
theorem A0 {V:View}{lp:OA}{ln lc:Nat}(hc:ln<=lc) :
  ab prog 21 #[.slice lp ln lc] V fun r V'=>∃bk,r=.pointer (some ⟨bk,0,none⟩)/\V.w.heap.size<=bk/\V'.bC bk (.cells #[.slice lp (min ln 400) lc,.int .i64 0] 136 (0,0)):=by
 refine CP (Ar lp ln lc (EF V) _ ?_)
 have e:bN (ln:Int) 400=((min ln 400:Nat):Int):=by
  unfold bN
  simp only [Nat.min_def]
  split<;>split<;>omega
 rw [e,Int.toNat_natCast]
 have:=Nat.min_le_left ln 400
 exact ⟨⟨by omega,by omega⟩,fun V1 l1 bk hb=>⟨bk,rfl,hb⟩⟩
theorem HL {V1 V2 V3:View}{bk:Nat}(l2:V1.Le V2)(hfr:V1.w.heap.size<=bk)(l3:(V2.Hm bk).Le V3):V1.Le V3:=fun b o h=>l3 b o ⟨fun hh=>hh.elim (l2 b o h).1 fun e=>by
  have hlt:b<V1.w.heap.size:=by
   rcases Nat.lt_or_ge b V1.w.heap.size with h'|h'
   ·exact h'
   ·have:=h.2;rw [Array.getElem?_eq_none h'] at this;cases this
  have:=e.1
  omega,(l2 b o h).2⟩
end Go.Proofs.Tryz
namespace Go.Proofs.Tryz
open Go.bF
set_option maxRecDepth 100000
end Go.Proofs.Tryz
namespace Go.Proofs.Tryz
open Go.bF Go.eK
theorem G1 {V:View}{v:Value}{q:Rat}(h:RQ V v q):ab prog 42 #[v] V fun r V'=>r=.int .i64 q.num.sign:=by
 obtain ⟨_,_,_,_,_,_,rfl,h1,-⟩:=h
 exact yW q h1
end Go.Proofs.Tryz
namespace Go.Proofs.Tryz
open Go.bF
set_option maxRecDepth 100000
end Go.Proofs.Tryz
namespace Go.Proofs.Tryz
open Go.bF Go.eK
theorem IC {V:View}{vs:List Value}{ls:List L3}(h:Row 6 cF V vs ls)(hl:vs.length=ls.length*6):∀v∈vs,v.oneCell'=true:=by
 intro v hv
 obtain ⟨m,hm,e⟩:=List.mem_iff_getElem.1 hv
 exact oZ h (by decide) (fun _ _=>Ka) (m:=m) (by omega) (by rw [←e];exact List.getElem?_eq_getElem hm)
theorem IB {ls:List L3}(hk:∀m∈ls,cE m=true):∀m∈ls.reverse,cE m=true:=fun m hm=>hk m (List.mem_reverse.1 hm)
end Go.Proofs.Tryz
