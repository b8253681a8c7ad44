import Derived.Test.YtdhlkpfmlimjfaaGreatDoorV18
import Derived.Test.YtdhlkpfmlimjfaaGreatDoorV15
import Derived.Test.YtdhlkpfmlimjfaaGreatDoorV9
import Derived.Test.YtdhlkpfmlimjfaaGreatDoorV17
import Derived.Test.YtdhlkpfmlimjfaaGreatDoorV6
set_option linter.unusedVariables false
open Go.IntKind (i64 u64 u32)
namespace Go.Proofs.Tryz
open Go.Eng Go.Big
theorem c_Cell_Divide {V:View}{cp:OA}{cn cc:Nat}{c:List Sd}{lv:Value}{l:L3}(h:Lst 17 RSd V cp cn c)(hc:cn<=cc)(hl:RLi V lv l)(hb:Bd l)(hn:c.length<=100000)(asc:c.Pairwise fun s u=>Sec.ang (Sec.dirL s.1) (Sec.dirL u.1)<0) :
  Acts prog 177 #[.slice cp cn cc,lv] V fun r V'=>∃p n m q k e,r=.tuple #[.slice p n m,.slice q k e,.bool (clipC c l).isSome,.bool (clipC c (revL l)).isSome]/\(∀d,clipC c l=some d->Lst 17 RSd V' p n d/\n<=m)/\(∀d,clipC c (revL l)=some d->Lst 17 RSd V' q k d/\k<=e):=by
 have a:=hl
 obtain ⟨_,_,_,_,_,_,_,_,_,rfl,-,-,-⟩:=hl
 refine vc_geo_Cell_Divide cp cn cc _ _ _ _ _ _ _ _ _ V _ fun H j=>(c_Cell_Clip (h.le j fun _ _ g=>RSd.le g j) (a.le j) hb hn asc).mono ?_
 rintro r V2 C ⟨p,n,m,rfl,D⟩
 have b:=j.trans C
 refine ⟨_,_,_,_,rfl,fun I t=>(k_Reverse (a.le (b.trans t)) hb.szl (by omega)).mono ?_⟩
 rintro r E A B
 have v:RLi E r (revL l):=B
 obtain ⟨_,_,_,_,_,_,_,_,_,rfl,-,-,-⟩:=B
 have f:=b.trans (t.trans A)
 refine ⟨_,_,_,_,_,_,_,_,_,rfl,fun J o=>(c_Cell_Clip (h.le (f.trans o) fun _ _ g=>RSd.le g (f.trans o)) (v.le o) hb.rev hn asc).mono ?_⟩
 rintro r K F ⟨q,k,e,rfl,G⟩
 refine ⟨_,_,_,_,rfl,fun L w=>⟨_,_,_,_,_,_,rfl,fun d x=>?_,fun d x=>?_⟩⟩
 ·obtain ⟨y,z⟩:=D d x
  have i:=t.trans (A.trans (o.trans (F.trans w)))
  exact ⟨y.le i fun _ _ g=>RSd.le g i,z hc⟩
 ·obtain ⟨y,z⟩:=G d x
  exact ⟨y.le w fun _ _ g=>RSd.le g w,z hc⟩
def RPrt (V:View)(v:Value)(p:List Sd×Bool):Prop:=∃q n e b,v=.agg #[.slice q n e,.pointer b]/\Lst 17 RSd V q n p.1/\n<=e/\RT V b (.leaf p.2)
theorem RPrt.le {V V':View}{v:Value}{p:List Sd×Bool}(h:RPrt V v p)(l:V.Le V'):RPrt V' v p:=by
 obtain ⟨q,n,e,b,rfl,a,c,d⟩:=h
 exact ⟨q,n,e,b,rfl,a.le l fun _ _ g=>RSd.le g l,c,RT.le l d⟩
theorem one2p {q:OA}{n e:Nat}{b:OA}:∀v∈([.slice q n e,.pointer b]:List Value),v.oneCell'=true:=fun v a=>by
 simp only [List.mem_cons,List.not_mem_nil,or_false] at a
 rcases a with rfl|rfl<;>rfl
theorem c_bsp_parts:∀(t:Tr) {V:View} {q cp:OA} {cn cc lb n m:Nat} {c:List Sd} {M:List L3} {vs:List Value} {o:List (List Sd×Bool)},RT V q t->t.All Okb->CanC M c->(∀x∈M,okL x=true)->Lst 17 RSd V cp cn c->cn<=cc->c.length+t.size<=90000 ->
  (vs≠[]->V.w.heap[lb]?=some (.cells vs.toArray 115 (0,0)))->(vs≠[]->V.X lb)->GR 2 RPrt V n m vs o->(vs≠[]->0<n)->n+t.size+1<=1000000 ->
  Acts prog 138 #[.pointer q,.slice cp cn cc,.slice (mA lb m) n m] V fun r V'=>∃(bm:Nat)(vm:List Value)(n' c':Nat),(vm≠[]->V'.w.heap[bm]?=some (.cells vm.toArray 115 (0,0)))/\(vm≠[]->V.w.heap.size<=bm\/(vs≠[]/\bm=lb)) /\
   r=.slice (mA bm c') n' c'/\GR 2 RPrt (V'.hideG (vm≠[]) bm) n' c' vm (o++partsC t c)/\(vm≠[]->0<n')/\n'<=n+t.size+1:=by
 intro t
 have u:∀{A B:Prop},A\/B\/False->A\/B:=fun h=>h.imp id fun h=>h.elim id False.elim
 induction t with
 | leaf i=>
  intro V q cp cn cc lb n m c M vs o h ha hC Z hL N hlen hw O hg s hn
  refine vc_bsp_T_parts q cp cn cc lb n m vs V _ hw O fun V1 l1=>(c_bsp_IsLeaf (h.le l1)).mono ?_
  rintro r V2 l2 rfl
  have f:=l1.trans l2
  refine ⟨_,rfl,fun hl=>⟨by omega,hg.le,hg.cap,rfl,one2p,fun sp c3 k1 k2 V3 bk hle D E=>⟨bk,_,n+1,c3,D,fun h=>u (E h),rfl,?_,fun _=>by omega,by omega⟩⟩,(fun hl=>by cases hl)⟩
  exact (hg.mono fun _ _ g=>RPrt.le g (f.trans hle)).snoc (a:=(c,i)) rfl ⟨_,_,_,_,rfl,hL.le (f.trans hle) fun _ _ g=>RSd.le g (f.trans hle),N,RT.le (f.trans hle) h⟩ (by decide) k1 k2
 | node ln a b iha ihb=>
  intro V q cp cn cc lb n m c M vs o h ha hC Z hL N hlen hw O hg s hn
  refine vc_bsp_T_parts q cp cn cc lb n m vs V _ hw O fun V1 l1=>(c_bsp_IsLeaf (h.le l1)).mono ?_
  rintro r V2 l2 rfl
  have f:=l1.trans l2
  refine ⟨_,rfl,(fun hl=>by cases hl),fun _=>?_⟩
  obtain ⟨bb,u1,u2,u3,v1,v2,v3,w1,w2,w3,pl,pr,i,rfl,hb,c0,c5,a0⟩:=h.le f
  obtain ⟨⟨F,c6⟩,c7,a6⟩:=ha
  simp only [Tr.size] at hn hlen
  have k:∀{W:View},V2.Le W->∀j v,([.int .i64 u1,.int .i64 u2,.pointer u3,.int .i64 v1,.int .i64 v2,.pointer v3,.int .i64 w1,.int .i64 w2,.pointer w3,.pointer pl,.pointer pr,.bool i]:List Value)[j]?=some v->W.at ((⟨bb,0,none⟩:Addr).add j) v:=by
   intro W hW j v hv;rw [add_zero'];exact blk_at (xs:=[_,_,_,_,_,_,_,_,_,_,_,_]) (hW _ _ hb) hv
  have G:=View.Le.refl V2
  have a7:∀d,clipC c ln=some d->d.length+a.size<=90000:=fun d C=>by have:=clipC_len C;omega
  have I:∀d,clipC c (revL ln)=some d->d.length+b.size<=90000:=fun d C=>by have:=clipC_len C;omega
  have a8:∀d,clipC c ln=some d->CanC (ln::M) d:=(clip_ok hC Z F).1
  have J:∀d,clipC c (revL ln)=some d->CanC (revL ln::M) d:=(clip_ok hC Z (ok_rev F)).1
  have c8:∀x∈ln::M,okL x=true:=fun x O=>(List.mem_cons.1 O).elim (fun g=>g▸F) (Z x)
  have okB:∀x∈revL ln::M,okL x=true:=fun x O=>(List.mem_cons.1 O).elim (fun g=>g▸ok_rev F) (Z x)
  refine ⟨rfl,rfl,_,_,_,_,_,_,_,_,_,⟨bb,0,none⟩,rfl,k G 0 _ rfl,k G 1 _ rfl,k G 2 _ rfl,k G 3 _ rfl,k G 4 _ rfl,k G 5 _ rfl,k G 6 _ rfl,k G 7 _ rfl,k G 8 _ rfl,fun V4 l4=>(c_Cell_Divide (hL.le (f.trans l4) fun _ _ g=>RSd.le g (f.trans l4)) N (l:=ln) (c0.le l4) c6 (by omega) hC.asc).mono ?_⟩
  rintro r V5 l5 ⟨p1,n1,c1,p2,n2,c2,rfl,c9,a9⟩
  have p:=l4.trans l5
  have d0:=f.trans p
  have P:GR 2 RPrt V5 n m vs o:=hg.mono fun _ _ g=>RPrt.le g d0
  have eP:partsC (.node ln a b) c=(match clipC c ln with|some d=>partsC a d|none=>[])++(match clipC c (revL ln) with|some d=>partsC b d|none=>[]):=rfl
  rw [eP]
  refine ⟨_,_,_,_,_,_,_,_,rfl,fun b1=>?_,fun b1=>?_⟩
  ·obtain ⟨d,C⟩:=Option.isSome_iff_exists.1 b1
   obtain ⟨gd,gc⟩:=c9 d C
   rw [C]
   refine ⟨rfl,rfl,pl,rdc (p _ _ hb) 9 rfl,fun Q l6 bk f1 f2=>?_⟩
   refine (iha (V:=Q.lend [vb vs Q.w.heap.size bk]) (lb:=bk) (RT.le (V:=V2) (V':=Q.lend _) (fun b o h=>(p.trans l6) b o h) c5) c7 (a8 d C) c8 (gd.le (V:=V5) (V':=Q.lend _) (fun b o h=>l6 b o h) fun _ _ g=>RSd.le g fun b o h=>l6 b o h) gc (a7 d C) f1 (fun h=>⟨by simp [vb_ne h],f2 h⟩) (P.mono (V':=Q.lend _) fun _ _ g=>RPrt.le g fun b o h=>l6 b o h) s (by omega)).mono ?_
   rintro r V7 l7 ⟨bm,vm,n3,c3,a1,a2,rfl,a3,a4,a5⟩
   have d1:Q.Le (V7.shut.hideG (vm≠[]) bm):=le_moved (V:=Q) (V':=V7) (fun b o h=>l7 b o h) fun h=>(a2 h).imp id fun (g:vs≠[]/\bm=bk)=>by rw [g.2];exact f2 g.1
   have b0:=l6.trans d1
   have b5:GR 2 RPrt (V7.shut.hideG (vm≠[]) bm) n3 c3 vm (o++partsC a d):=a3.mono fun _ _ g=>RPrt.le g fun b o h=>h
   refine ⟨bm,vm,a1,a2,none,n3,c3,rfl,fun b2=>?_,fun b2 d2 b6 hle D E=>⟨b6,vm,n3,c3,D,fun h=>u (E h),rfl,?_,a4,by simp only [Tr.size];omega⟩⟩
   ·obtain ⟨R,e⟩:=Option.isSome_iff_exists.1 b2
    obtain ⟨S,T⟩:=a9 R e
    rw [e]
    refine ⟨rfl,rfl,pr,rdc ((p.trans b0) _ _ hb) 10 rfl,fun V8 l8 K f3 f4=>?_⟩
    have U:=b0.trans l8
    refine (ihb (V:=V8.lend [vb vm V8.w.heap.size K]) (lb:=K) (RT.le (V:=V2) (V':=V8.lend _) (fun b o h=>(p.trans U) b o h) a0) a6 (J R e) okB (S.le (V:=V5) (V':=V8.lend _) (fun b o h=>U b o h) fun _ _ g=>RSd.le g fun b o h=>U b o h) T (I R e) f3 (fun h=>⟨by simp [vb_ne h],f4 h⟩) (b5.mono (V':=V8.lend _) fun _ _ g=>RPrt.le g fun b o h=>l8 b o h) a4 (by omega)).mono ?_
    rintro r V9 l9 ⟨Y,y,n4,c4,x1,x2,rfl,x3,x4,x5⟩
    refine ⟨Y,y,x1,x2,none,n4,c4,rfl,fun d3 b7 hle D E=>⟨b7,y,n4,c4,D,fun h=>u (E h),rfl,?_,x4,by simp only [Tr.size];omega⟩⟩
    rw [←List.append_assoc]
    exact x3.mono fun _ _ g=>RPrt.le g fun b o h=>hle b o h
   ·have e:clipC c (revL ln)=none:=Option.isNone_iff_eq_none.1 (by rw [←Option.not_isSome,b2];rfl)
    rw [e]
    dsimp only
    rw [List.append_nil]
    exact b5.mono fun _ _ g=>RPrt.le g hle
  ·have C:clipC c ln=none:=Option.isNone_iff_eq_none.1 (by rw [←Option.not_isSome,b1];rfl)
   rw [C]
   refine ⟨fun b2=>?_,fun b2 d4 b8 hle D E=>⟨b8,vs,n,m,D,fun h=>u (E h),rfl,?_,s,by simp only [Tr.size];omega⟩⟩
   ·obtain ⟨R,e⟩:=Option.isSome_iff_exists.1 b2
    obtain ⟨S,T⟩:=a9 R e
    rw [e]
    refine ⟨rfl,rfl,pr,rdc (p _ _ hb) 10 rfl,fun z H L f3 f4=>?_⟩
    refine (ihb (V:=z.lend [vb vs z.w.heap.size L]) (lb:=L) (RT.le (V:=V2) (V':=z.lend _) (fun b o h=>(p.trans H) b o h) a0) a6 (J R e) okB (S.le (V:=V5) (V':=z.lend _) (fun b o h=>H b o h) fun _ _ g=>RSd.le g fun b o h=>H b o h) T (I R e) f3 (fun h=>⟨by simp [vb_ne h],f4 h⟩) (P.mono (V':=z.lend _) fun _ _ g=>RPrt.le g fun b o h=>H b o h) s (by omega)).mono ?_
    rintro r d5 d6 ⟨Y,y,n4,c4,x1,x2,rfl,x3,x4,x5⟩
    refine ⟨Y,y,x1,x2,none,n4,c4,rfl,fun d7 b9 hle D E=>⟨b9,y,n4,c4,D,fun h=>u (E h),rfl,?_,x4,by simp only [Tr.size];omega⟩⟩
    exact x3.mono fun _ _ g=>RPrt.le g fun b o h=>hle b o h
   ·have e:clipC c (revL ln)=none:=Option.isNone_iff_eq_none.1 (by rw [←Option.not_isSome,b2];rfl)
    rw [e]
    show GR 2 RPrt _ n m vs (o++([]++[]))
    rw [List.append_nil,List.append_nil]
    exact P.mono fun _ _ g=>RPrt.le g hle
theorem c_bsp_Parts {V:View}{q:OA}{t:Tr}(h:RT V q t)(ha:t.All Okb)(hs:t.size<=80000) :
  Acts prog 95 #[.pointer q] V fun r V'=>∃p n c,r=.slice p n c/\Lst 2 RPrt V' p n (partsC t []):=by
 refine vc_bsp_T_Parts q V _ fun e f=>(c_bsp_parts t (V:=e) (lb:=0) (vs:=[]) (o:=[]) (m:=0) (n:=0) (cp:=none) (cn:=0) (cc:=0) (c:=[]) (M:=[]) (h.le f) ha CanC.nil (fun x i=>by cases i) Lst.nil (Nat.le_refl _) (by simp;omega) (fun h=>absurd rfl h) (fun h=>absurd rfl h) GR.nil (fun h=>absurd rfl h) (by omega)).mono ?_
 rintro r V2 v ⟨j,vm,n,c,k,l,rfl,a,w,y⟩
 refine ⟨j,vm,k,fun h=>(l h).imp id fun g=>absurd rfl g.1,none,n,c,rfl,fun z s A u=>?_⟩
 have d:=a.len
 rw [List.nil_append] at a d
 rw [d]
 exact ⟨_,_,_,rfl,Lst.of_mrow u (a.row.le fun _ _ g=>RPrt.le g fun b o h=>s b o h) (by decide) (by rw [←d];exact a.le)⟩
theorem zy (l:List Nd):∀(f:Nat)(n:Int)(s:RS),(df l f n s).2.bad=false->∀i:Nat,(df l f n s).2.seen[i]?=some true->s.seen[i]?=some true\/∃x:Nd,l[i]?=some x/\okL x.ln=true
 | 0,_,_,_,_,h=>.inl h
 | f+1,n,s,h,i,hi=>by
  simp only [df] at h hi
  by_cases n2:n=-2
  ·rw [if_pos n2] at hi;exact .inl hi
  rw [if_neg n2] at h hi
  by_cases n1:n=-1
  ·rw [if_pos n1] at hi;exact .inl hi
  rw [if_neg n1] at h hi
  by_cases n0:n<0
  ·rw [if_pos n0] at h;cases h
  rw [if_neg n0] at h hi
  cases hx:l[n.toNat]? with
  | none=>rw [hx] at h;cases h
  | some x=>
  cases hs:s.seen[n.toNat]? with
  | none=>rw [hx,hs] at h;cases h
  | some b=>
  cases b with
  | true=>rw [hx,hs] at h;cases h
  | false=>
   rw [hx,hs] at h hi
   dsimp only at h hi
   by_cases ho:okL x.ln=true
   ·rw [if_pos ho] at h hi
    dsimp only at h hi
    have hb:(df l f x.left ⟨s.seen.set n.toNat true,s.jt+1,s.bad⟩).2.bad=false:=by
     cases e:(df l f x.left ⟨s.seen.set n.toNat true,s.jt+1,s.bad⟩).2.bad
     ·rfl
     ·have:=zx l f x.right _ e
      rw [h] at this;cases this
    rcases zy l f x.right _ h i hi with g|g
    ·rcases zy l f x.left _ hb i g with g|g
     ·dsimp only at g
      rw [List.getElem?_set] at g
      split at g
      ·rename_i e;subst e;exact .inr ⟨x,hx,ho⟩
      ·exact .inl g
     ·exact .inr g
    ·exact .inr g
   ·rw [if_neg ho] at h;cases h
theorem ofT_okl {l:List Nd}{root:Int}{t:Tr}(h:ofT l root=some t):∀x∈l,okL x.ln=true:=by
 have f:l.length<=65536:=by
  rcases Nat.lt_or_ge 65536 l.length with b|b
  ·unfold ofT at h;rw [if_pos b] at h;cases h
  ·exact b
 rw [Ib f] at h
 split at h
 ·rename_i d
  intro x j
  obtain ⟨i,c,rfl⟩:=List.mem_iff_getElem.1 j
  have hm:=(oG l (l.length+1) root ⟨List.replicate l.length false,0,false⟩).2
  have k:(df l (l.length+1) root ⟨List.replicate l.length false,0,false⟩).2.seen[i]?=some true:=by
   have a:i<(df l (l.length+1) root ⟨List.replicate l.length false,0,false⟩).2.seen.length:=by rw [hm];simpa using c
   rw [List.getElem?_eq_getElem a]
   have:=List.all_eq_true.1 d.2 _ (List.getElem_mem a)
   exact congrArg some this
  rcases zy l _ root _ d.1 i k with g|⟨y,e,m⟩
  ·simp [c] at g
  ·rw [List.getElem?_eq_getElem c] at e;cases e;exact m
 ·cases h
theorem c_cells_parts {V:View}{v:Value}{root:Int}{l:List Nd}(hb:∀x∈l,Bd x.ln)(h:AT V v root l){y z:Value}(hy:Sent V 0 y)(hz:Sent V 1 z) :
  Acts prog 40 #[v] V fun r V'=>(ofT l root=none->r=.tuple #[.slice none 0 0,y])/\∀t,ofT l root=some t->(1024<t.depth->r=.tuple #[.slice none 0 0,z])/\(t.depth<=1024->∃p n c,r=.tuple #[.slice p n c,.nilIface]/\Lst 2 RPrt V' p n (partsC t [])):=by
 have A:=h
 obtain ⟨q,n,c,rfl,-⟩:=h
 refine vc_cells_parts root q n c V _ fun G m=>(c_bsp_Of' hb (A.le m)).mono ?_
 rintro r V2 B ⟨a,rfl,o⟩
 have d:=m.trans B
 refine ⟨_,_,rfl,fun g=>⟨y,⟨_,rfl,hy.le d⟩,fun H I=>?_⟩,fun g J s=>?_⟩
 ·have g:ofT l root=none:=by cases e:ofT l root with
   | none=>rfl
   | some t=>rw [e] at g;cases g
  exact ⟨fun _=>rfl,fun t b=>by rw [g] at b;cases b⟩
 ·cases e:ofT l root with
  | none=>rw [e] at g;cases g
  | some t=>
   have K:=ofT_size e
   have j:t.All Okb:=ofT_all (p:=Okb) (fun x u=>⟨ofT_okl e x u,hb x u⟩) e
   refine (c_bsp_Depth t ((o t e).le s) (by omega)).mono ?_
   rintro r L C rfl
   have f:=s.trans C
   refine ⟨_,rfl,fun i=>⟨z,⟨_,rfl,hz.le (d.trans f)⟩,fun M N=>⟨(fun k=>by cases k),fun D b=>?_⟩⟩,fun i O E=>(c_bsp_Parts ((o t e).le (f.trans E)) j (by omega)).mono ?_⟩
   ·cases b
    have i:=of_decide_eq_true i
    exact ⟨fun _=>rfl,fun k=>by omega⟩
   ·rintro r P Q ⟨p,n,c,rfl,F⟩
    refine ⟨_,_,_,rfl,fun R w=>⟨(fun k=>by cases k),fun D b=>?_⟩⟩
    cases b
    have i:=of_decide_eq_false i
    exact ⟨fun k=>by omega,fun _=>⟨_,_,_,rfl,F.le w fun _ _ g=>RPrt.le g w⟩⟩
theorem parts_len:∀{t:Tr} {c:List Sd},∀p∈partsC t c,p.1.length<=c.length+t.size
 | .leaf b,c,p,hp=>by
  unfold partsC at hp
  rw [List.mem_singleton.1 hp];simp
 | .node l a b,c,p,hp=>by
  unfold partsC at hp
  simp only [Tr.size]
  rcases List.mem_append.1 hp with hp|hp
  ·cases e:clipC c l with
   | some d=>rw [e] at hp;have:=parts_len p hp;have:=clipC_len e;omega
   | none=>rw [e] at hp;cases hp
  ·cases e:clipC c (revL l) with
   | some d=>rw [e] at hp;have:=parts_len p hp;have:=clipC_len e;omega
   | none=>rw [e] at hp;cases hp
theorem parts_count:∀{t:Tr} {c:List Sd},(partsC t c).length<=t.size+1
 | .leaf b,c=>by unfold partsC;simp
 | .node l a b,c=>by
  unfold partsC
  simp only [Tr.size]
  rw [List.length_append]
  have h1:(match clipC c l with|some d=>partsC a d|none=>[]).length<=a.size+1:=by
   cases clipC c l with
   | some d=>exact parts_count
   | none=>exact Nat.zero_le _
  have e:(match clipC c (revL l) with|some d=>partsC b d|none=>[]).length<=b.size+1:=by
   cases clipC c (revL l) with
   | some d=>exact parts_count
   | none=>exact Nat.zero_le _
  exact Nat.le_trans (Nat.add_le_add h1 e) (by omega)
theorem lst_prt {V:View}{p:OA}{n:Nat}{al:List (List Sd×Bool)}(h:Lst 2 RPrt V p n al){i:Nat}(hi:i<al.length) :
  p.isSome=true/\∃(q:OA)(m e:Nat)(b:OA)(a:Addr),addrAdd p (i*2)=some a/\V.at (a.add 0) (.slice q m e)/\V.at (a.add 1) (.pointer b)/\Lst 17 RSd V q m al[i].1/\m<=e/\RT V b (.leaf al[i].2):=by
 obtain ⟨f,c,xs,o,g,d⟩:=h.at_ i hi
 obtain ⟨q,m,e,b,ex,j,k,l⟩:=g
 have ex:=congrArg Array.toList (Value.agg.inj ex)
 dsimp only at ex
 subst ex
 refine ⟨?_,q,m,e,b,f,c,d 0 _ rfl,d 1 _ rfl,j,k,l⟩
 cases p with
 | none=>cases c
 | some a=>rfl
def RCl1 (V:View)(v:Value)(S:List L3):Prop:=∃p n c,v=.agg #[.slice p n c]/\Lst 6 RLv V p n S
theorem RCl1.le {V V':View}{v:Value}{S:List L3}(h:RCl1 V v S)(l:V.Le V'):RCl1 V' v S:=by
 obtain ⟨p,n,c,rfl,g⟩:=h;exact ⟨p,n,c,rfl,g.le l fun _ _ k=>RLv.le k l⟩
def RCode (_V:View)(v:Value)(b:Bool):Prop:=v=.agg #[.int .i64 (if b then -2 else -1)]
theorem c_cells_All {V:View}{v:Value}{root:Int}{l:List Nd}(hb:∀x∈l,Bd x.ln)(h:AT V v root l){y z:Value}(hy:Sent V 0 y)(hz:Sent V 1 z)(sy:SErr y)(sz:SErr z) :
  Acts prog 11 #[v] V fun r V'=>(ofT l root=none->r=.tuple #[.slice none 0 0,.slice none 0 0,y])/\∀t,ofT l root=some t->(1024<t.depth->r=.tuple #[.slice none 0 0,.slice none 0 0,z])/\(t.depth<=1024->∃p n c q m e,r=.tuple #[.slice p n c,.slice q m e,.nilIface]/\Lst 1 RCl1 V' p n ((partsC t []).map fun p=>p.1.map Prod.fst)/\Lst 1 RCode V' q m ((partsC t []).map Prod.snd)):=by
 have h0:=h
 obtain ⟨q,n,c,rfl,-⟩:=h
 have O:∀{y:Value},SErr y->IsIface y/\isNilI y=false:=fun h=>by obtain ⟨a,rfl⟩:=h;exact ⟨.inr ⟨_,_,rfl⟩,rfl⟩
 refine vc_cells_All root q n c V _ fun V1 Q=>(c_cells_parts hb (h0.le Q) (hy.le Q) (hz.le Q)).mono ?_
 rintro r V2 l2 ⟨h1,h2⟩
 have a5:=Q.trans l2
 cases e:ofT l root with
 | none=>
  obtain rfl:=h1 e
  exact ⟨_,_,_,_,rfl,(O sy).1,fun _ V3 l3=>⟨fun _=>rfl,fun t C=>by cases C⟩,fun B=>by rw [(O sy).2] at B;cases B⟩
 | some t=>
  obtain ⟨g1,g2⟩:=h2 t e
  by_cases hd:1024<t.depth
  ·obtain rfl:=g1 hd
   exact ⟨_,_,_,_,rfl,(O sz).1,fun _ V3 l3=>⟨(fun k=>by cases k),fun t' C=>by cases C;exact ⟨fun _=>rfl,fun k=>by omega⟩⟩,fun B=>by rw [(O sz).2] at B;cases B⟩
  ·obtain ⟨p,n',c',rfl,hL⟩:=g2 (by omega)
   have a6:=ofT_size e
   have a0:=parts_count (t:=t) (c:=[])
   have R:=parts_len (t:=t) (c:=[])
   obtain rfl:=hL.len
   refine ⟨_,_,_,_,rfl,.inl rfl,(fun B=>by cases B),fun _=>?_⟩
   generalize eA:partsC t []=A at *
   refine ⟨fun z V'=>∃j:Nat,z.2.2.2.2.2.2=(j:Int)/\j<=A.length/\GR 1 RCl1 V' z.1 z.2.1 z.2.2.1 ((A.take j).map fun p=>p.1.map Prod.fst)/\GR 1 RCode V' z.2.2.2.1 z.2.2.2.2.1 z.2.2.2.2.2.1 ((A.take j).map Prod.snd),fun z=>A.length-z.2.2.2.2.2.2.toNat,⟨(0,0,[],0,0,[],0),by and_intros<;>first|rfl|trivial,0,rfl,Nat.zero_le _,GR.nil,GR.nil⟩,?_⟩
   rintro ⟨D,w2,ws,E,x2,xs,w⟩ V4 l4 ⟨j,ej,a7,b,d⟩
   dsimp only at ej b d ⊢
   subst ej
   refine ⟨by trivial,fun f=>?_,fun f V9 l9 b1 b2 S k2=>⟨(fun k=>by cases k),fun t' C=>⟨fun k=>by cases C;omega,fun _=>?_⟩⟩⟩
   ·have f:(j:Int)<A.length:=of_decide_eq_true f
    have G:j<A.length:=by omega
    have wr:i64.wrap ((j:Int)+1)=((j+1:Nat):Int):=by rw [i64w (by omega)];rfl
    rw [wr,Int.toNat_natCast]
    obtain ⟨ps,pq,pm,pe,pb,ad,ha,k0,S,gl,a8,T⟩:=lst_prt (hL.le l4 fun _ _ g=>RPrt.le g l4) G
    have H:=R _ (List.getElem_mem G)
    have et:A.take (j+1)=A.take j++[A[j]]:=(List.take_append_getElem G).symm
    have la:=b.len
    have lb:=d.len
    rw [List.length_map,List.length_take] at la lb
    generalize A[j]=P at *
    obtain ⟨bb,c0,s,u,c3,c4,c5,c6,c7,c8,rr,rfl,U⟩:=T
    simp only [List.length_nil,Nat.zero_add] at H
    have call:∀{x:Int},x=(if P.2 then -2 else -1)->∀I,V4.Le I->Acts prog 41 #[.slice pq pm pe] I fun r F=>∃(q:OA)(m e:Nat),r=.agg #[.slice q m e]/\∀{i o:List Value} {s u:Nat},D+1<=s->s*1<=(D+1)*1+i.length->E+1<=u->u*1<=(E+1)*1+o.length->GR 1 RCl1 F (D+1) s (ws.take (D*1)++[.slice q m e]++i) ((A.take (j+1)).map fun p=>p.1.map Prod.fst)/\GR 1 RCode F (E+1) u (xs.take (E*1)++[.int .i64 x]++o) ((A.take (j+1)).map Prod.snd):=fun {x} hx I J=>by
     refine (c_Cell_API (gl.le J fun _ _ g=>RSd.le g J) (by omega)).mono ?_
     rintro r F l6 ⟨q,m,e,rfl,hq,-⟩
     have W:=J.trans l6
     refine ⟨q,m,e,rfl,fun {i o s u} K L M N=>?_⟩
     rw [et,List.map_append,List.map_append]
     exact ⟨(b.mono (V':=F) fun _ _ g=>RCl1.le g W).snoc (a:=P.1.map Prod.fst) rfl ⟨_,_,_,rfl,hq⟩ (by decide) K L,(d.mono (V':=F) fun _ _ g=>g).snoc (a:=P.2) rfl (by rw [hx];rfl) (by decide) M N⟩
    have o1:∀{q:OA} {m e:Nat},∀v∈([.slice q m e]:List Value),v.oneCell'=true:=fun v X=>by rw [List.mem_singleton.1 X];rfl
    have o2:∀{x:Int},∀v∈([.int .i64 x]:List Value),v.oneCell'=true:=fun v X=>by rw [List.mem_singleton.1 X];rfl
    refine ⟨ps,⟨by omega,by omega⟩,pq,pm,pe,_,ad,ha,k0,S,rfl,rfl,P.2,rdc U 11 rfl,fun Y I J=>(call (x:=-2) (by rw [Y];rfl) I J).mono ?_,fun Y V7 l7=>(call (x:=-1) (by rw [Y];rfl) V7 l7).mono ?_⟩
    ·rintro r F l6 ⟨q,m,e,rfl,Z⟩
     refine ⟨q,m,e,rfl,by omega,b.le,b.cap,rfl,o1,fun i s K L=>⟨by omega,d.le,d.cap,rfl,o2,fun o u M N=>⟨(D+1,s,_,E+1,u,_,((j+1:Nat):Int)),by dsimp only;omega,by and_intros<;>first|rfl|trivial,j+1,rfl,G,Z K L M N⟩⟩⟩
    ·rintro r V8 l8 ⟨q,m,e,rfl,Z⟩
     refine ⟨q,m,e,rfl,by omega,b.le,b.cap,rfl,o1,fun i s K L=>⟨by omega,d.le,d.cap,rfl,o2,fun o u M N=>⟨(D+1,s,_,E+1,u,_,((j+1:Nat):Int)),by dsimp only;omega,by and_intros<;>first|rfl|trivial,j+1,rfl,G,Z K L M N⟩⟩⟩
   ·have f:¬(j:Int)<A.length:=of_decide_eq_false f
    obtain rfl:j=A.length:=by omega
    rw [List.take_length] at b d
    cases C
    rw [eA]
    have e1:=b.len
    have e2:=d.len
    have f1:=b.le
    have f2:=d.le
    subst e1 e2
    exact ⟨_,_,_,_,_,_,rfl,Lst.of_mrow S (b.row.le fun _ _ g=>RCl1.le g l9) (by decide) f1,Lst.of_mrow k2 (d.row.le fun _ _ g=>g) (by decide) f2⟩
theorem vW {V:View}{y z:Value}(hy:Sent V 0 y)(hz:Sent V 1 z)(sy:SErr y)(sz:SErr z):Acts prog 19 #[] V fun r V'=>r=.bool true:=by
 refine vy V _ fun D B=>?_
 have h:AT D (.agg #[.int .i64 (-2),.slice none 0 0]) (-2) []:=⟨none,0,0,rfl,rfl,Nat.le_refl _,⟨[],(fun i v h=>by simp at h),fun i d h=>by simp at h⟩,fun _=>rfl⟩
 refine (c_cells_All (l:=[]) (fun x E=>by cases E) h (hy.le B) (hz.le B) sy sz).mono ?_
 rintro r V2 P ⟨-,F⟩
 have e:ofT [] (-2)=some (.leaf true):=by decide
 obtain ⟨p,n,c,q,m,k,rfl,s,t⟩:=(F _ e).2 (by decide)
 have G:partsC (.leaf true) []=[([],true)]:=rfl
 rw [G] at s t
 have u:=s.len
 have w:=t.len
 obtain ⟨C,j,xs,Q,⟨H,I,J,ex,K⟩,L⟩:=s.at_ 0 (by simp)
 obtain ⟨b,g,R,S,o,M⟩:=t.at_ 0 (by simp)
 have ex:=congrArg Array.toList (Value.agg.inj ex)
 have o:=congrArg Array.toList (Value.agg.inj o)
 dsimp only at ex o
 subst ex o
 have A:=K.len
 have u:n=1:=u
 have w:m=1:=w
 have A:I=0:=A
 subst u w A
 have j:addrAdd p 0=some C:=j
 have g:addrAdd q 0=some b:=g
 have sp:p.isSome=true:=by
  cases p with
  | none=>cases j
  | some a=>rfl
 have N:q.isSome=true:=by
  cases q with
  | none=>cases g
  | some a=>rfl
 have O:b.add 0=b:=by
  cases q with
  | none=>cases g
  | some a=>
   have b1:a.add 0=b:=Option.some.inj g
   rw [←b1,gu]
 refine ⟨_,_,_,_,_,_,_,rfl,.inl rfl,fun _=>⟨fun _=>⟨sp,⟨by decide,by decide⟩,by rw [j];rfl,H,0,J,⟨C.add 0,by rw [j];rfl,L 0 _ rfl⟩,fun _=>⟨fun _=>⟨N,⟨by decide,by decide⟩,-2,⟨b,g,by have:=M 0 _ rfl;rw [O] at this;exact this⟩,fun T U=>rfl⟩,fun f=>by simp at f⟩,fun f=>by simp at f⟩,fun f=>by simp at f⟩,fun f=>by simp [isNilI] at f⟩
end Go.Proofs.Tryz
namespace Go.Proofs.Tryz
open Go.Eng
set_option maxRecDepth 100000
end Go.Proofs.Tryz
namespace Go.Proofs.Tryz
open Go.Eng Go.Big
theorem HU {V:View}{p:OA}{n:Nat}{al:List (List L3)}(h:Lst 1 RCl1 V p n al){i:Nat}(hi:i<al.length) :
  p.isSome=true/\∃(q:OA)(m e:Nat)(a:Addr),addrAdd p (i*1)=some a/\V.at (a.add 0) (.slice q m e)/\V.at a (.slice q m e)/\Lst 6 RLv V q m al[i]:=by
 obtain ⟨b,c,xs,l,f,j⟩:=h.at_ i hi
 obtain ⟨q,m,e,ex,g⟩:=f
 have ex:=congrArg Array.toList (Value.agg.inj ex)
 dsimp only at ex
 subst ex
 cases p with
 | none=>cases c
 | some a=>
  have b1:a.add (i*1)=b:=Option.some.inj c
  have k:b.add 0=b:=by rw [←b1,gu];rfl
  have d:=j 0 _ rfl
  refine ⟨rfl,q,m,e,b,c,d,?_,g⟩
  rw [k] at d;exact d
theorem HS {V:View}{p:OA}{n:Nat}{al:List Bool}(h:Lst 1 RCode V p n al){i:Nat}(hi:i<al.length) :
  p.isSome=true/\∃a:Addr,addrAdd p (i*1)=some a/\V.at a (.int .i64 (if al[i]=true then -2 else -1)):=by
 obtain ⟨b,c,xs,j,e,f⟩:=h.at_ i hi
 have ex:=congrArg Array.toList (Value.agg.inj e)
 dsimp only at ex
 subst ex
 cases p with
 | none=>cases c
 | some a=>
  have b1:a.add (i*1)=b:=Option.some.inj c
  have g:b.add 0=b:=by rw [←b1,gu];rfl
  have d:=f 0 _ rfl
  rw [g] at d
  exact ⟨rfl,b,c,d⟩
theorem Ir {t:Tr}(ht:t.All Okb):∀p∈partsC t [],∀s∈p.1,Bd s.1:=fun p a s b=>by
 obtain ⟨M,c,d⟩:=mj (P:=Okb) (fun l h=>⟨ok_rev h.1,h.2.rev⟩) (fun l h=>h.1) CanC.nil (fun x e=>by cases e) ht p a
 exact (d _ (c.mem s b).1).2
theorem EN (c:List Sd)(x:Rat×Rat):hasC c x=(c.map Prod.fst).all fun l=>decide (0<=aj l x.1 x.2):=by
 unfold hasC;rw [List.all_map];rfl
theorem HG (c:List Sd)(x:Rat×Rat):inC c x=(c.map Prod.fst).all fun l=>decide (0<aj l x.1 x.2):=by
 unfold inC;rw [List.all_map];rfl
theorem G_ {c c':List Sd}(e:c.map Prod.fst=c'.map Prod.fst)(x:Rat×Rat):mw c x=mw c' x:=by
 unfold mw
 rw [EN,HG,EN,HG,e]
theorem sN {c:List Sd}{x:Rat×Rat}:inC c x=true↔jF c x:=by
 unfold inC jF
 rw [List.all_eq_true]
 exact ⟨fun h s a=>of_decide_eq_true (h s a),fun h s a=>decide_eq_true (h s a)⟩
theorem ub {c:List Sd}{x:Rat×Rat}:hasC c x=true↔∀s∈c,0<=aj s.1 x.1 x.2:=by
 unfold hasC
 rw [List.all_eq_true]
 exact ⟨fun h s a=>of_decide_eq_true (h s a),fun h s a=>decide_eq_true (h s a)⟩
theorem Ha {c:List Sd}{x:Rat×Rat}:mw c x=2↔inC c x=true:=by
 have a:inC c x=true->hasC c x=true:=fun h=>ub.2 fun s b=>Rat.le_of_lt (sN.1 h s b)
 unfold mw
 by_cases h:hasC c x=true
 ·rw [if_pos h]
  by_cases g:inC c x=true
  ·rw [if_pos g];exact ⟨fun _=>g,fun _=>rfl⟩
  ·rw [if_neg g];exact ⟨fun e=>absurd e (by decide),fun e=>absurd e g⟩
 ·rw [if_neg h];exact ⟨fun e=>absurd e (by decide),fun e=>absurd (a e) h⟩
theorem FD {c:List Sd}{x:Rat×Rat}:mw c x=0↔hasC c x=false:=by
 unfold mw
 cases h:hasC c x
 ·simp
 ·rw [if_pos rfl]
  split<;>simp
theorem DR {L:List (List Sd×Bool)}(hd:L.Pairwise fun p p'=>¬∃q,jF p.1 q/\jF p'.1 q){x:Sec.V2}{i j:Nat}(hi:i<L.length)(hj:j<L.length)(h1:jF L[i].1 x)(h2:jF L[j].1 x):i=j:=by
 rcases Nat.lt_trichotomy i j with h|h|h
 ·exact absurd ⟨x,h1,h2⟩ (List.pairwise_iff_getElem.1 hd i j hi hj h)
 ·exact h
 ·exact absurd ⟨x,h2,h1⟩ (List.pairwise_iff_getElem.1 hd j i hj hi h)
theorem Ph {V:View}{p:OA}{n:Nat}{ls:List L3}(h:Lst 6 RLv V p n ls):Lst 6 At V p n ls:=⟨h.len,fun i a=>by
 obtain ⟨b,c,xs,d,e,f⟩:=h.at_ i a
 exact ⟨b,c,xs,d,.inl e,f⟩⟩
theorem J_ {V:View}{p:OA}{n:Nat}{al:List (Rat×Rat)}(h:Lst 6 Fh V p n al){i:Nat}(hi:i<al.length) :
  p.isSome=true/\∃(b:Bool)(p1:OA)(n1 c1:Nat)(p2:OA)(n2 c2:Nat)(d:Bool)(p3:OA)(n3 c3:Nat)(p4:OA)(n4 c4:Nat)(a:Addr),addrAdd p (i*6)=some a/\V.at (a.add 0) (.bool b)/\V.at (a.add 1) (.slice p1 n1 c1)/\V.at (a.add 2) (.slice p2 n2 c2)/\V.at (a.add 3) (.bool d)/\V.at (a.add 4) (.slice p3 n3 c3)/\V.at (a.add 5) (.slice p4 n4 c4) /\
   RP V (.agg #[.bool b,.slice p1 n1 c1,.slice p2 n2 c2,.bool d,.slice p3 n3 c3,.slice p4 n4 c4]) al[i].1 al[i].2:=by
 obtain ⟨j,f,xs,k,g,c⟩:=h.at_ i hi
 have e:=g
 obtain ⟨_,_,_,_,_,_,_,_,_,_,_,_,_,_,ex⟩:=g.shape
 have ex:=congrArg Array.toList (Value.agg.inj ex)
 dsimp only at ex
 subst ex
 refine ⟨?_,_,_,_,_,_,_,_,_,_,_,_,_,_,_,j,f,c 0 _ rfl,c 1 _ rfl,c 2 _ rfl,c 3 _ rfl,c 4 _ rfl,c 5 _ rfl,e⟩
 cases p with
 | none=>cases f
 | some a=>rfl
theorem Ic {ls:List L3}{x:Rat×Rat}(h:∀l∈dS ls,aj l x.1 x.2≠0):∀l∈ls,aj l x.1 x.2≠0:=fun l a=>by
 have:=h (cP l) ((mX _).2 _ |>.2 (List.mem_map_of_mem a))
 unfold cP at this
 split at this
 ·rw [val_rev] at this;grind
 ·exact this
theorem mR {V:View}{y z:Value}(hy:Sent V 0 y)(hz:Sent V 1 z)(sy:SErr y)(sz:SErr z){lp:OA}{ln lc:Nat}(hr:Ja V lp ln)(hc:ln<=lc) :
  Acts prog 8 #[.slice lp ln lc] V fun r V'=>r=.bool true:=by
 refine mB lp ln lc V _ fun V1 l1=>(A2 hc).mono ?_
 rintro r V2 l2 ⟨a1,rfl,a2,hb⟩
 refine ⟨a1,_,_,_,_,rfl,a2,hb,fun V3 l3 a3 e4 I=>?_⟩
 have a4:V1.Le V3:=fun b o h=>l3 b o ⟨fun J=>J.elim (l2 b o h).1 fun e=>by
  have a:b<V1.w.heap.size:=by
   rcases Nat.lt_or_ge b V1.w.heap.size with h'|h'
   ·exact h'
   ·have:=h.2;rw [Array.getElem?_eq_none h'] at this;cases this
  have:=e.1
  omega,(l2 b o h).2⟩
 have L:min ln 400<=400:=Nat.min_le_right _ _
 have hr:Ja V lp (min ln 400):=fun i d=>hr i (Nat.lt_of_lt_of_le d (Nat.min_le_left _ _))
 generalize min ln 400=n at *
 have Vj:V.Le V3:=l1.trans a4
 refine (LV 4 (V:=V3.lend [a3]) (by omega) (hr.le fun b o h=>Vj b o h) L e4 ⟨by simp,I⟩ (Int.le_refl 0)).mono ?_
 rintro r V4 l4 ⟨qa,t,KY,rfl,Qv,f,d5,t1,a5⟩
 have a6:V.Le V4:=fun b o h=>l4 b o (Vj b o h)
 have Vy:ofT (wr 0 t) (rt 0 t)=some t:=MP (mh f) (by omega)
 have Uk:∀x∈wr 0 t,Bd x.ln:=uq (MR f)
 have d6:=kW t
 have d4:=parts_count (t:=t) (c:=[])
 have a7:=parts_len (t:=t) (c:=[])
 have a8:=Ir f
 have a9:∀p∈partsC t [],∃M',CanC M' p.1/\∀m∈M',okL m=true:=mj (P:=fun l=>okL l=true) (fun l h=>ok_rev h) (fun l h=>h) CanC.nil (fun x k=>by cases k) (mh f)
 have RY:=nj (t:=t) CanC.nil (fun x k=>by cases k) (mh f)
 have FQ:=fun x:Sec.V2=>lj (t:=t) (x:=x) CanC.nil (fun x k=>by cases k) (mh f) (fun s hs=>by cases hs)
 have B:=fun (x:Sec.V2) (h:∀m∈t.vM,aj m x.1 x.2≠0)=>F6 (t:=t) (x:=x) CanC.nil (fun x k=>by cases k) (mh f) (fun m hm=>by cases hm) h
 have OG:=fun x:Sec.V2=>nk (0,0) (t:=t) CanC.nil (fun x k=>by cases k) (mh f) (x:=x)
 have b5:∀l∈dS t.vM,Bd l:=Bf (fun _ h=>h.can) fun l N=>(mf f l N).2
 have JO:∀l∈dS t.vM,okL l=true:=Bf (q:=fun l=>okL l=true) (fun _ h=>DO h) fun l N=>(mf f l N).1
 have Xy:(dS t.vM).length<=1000:=by have:=xM t.vM;rw [mg] at this;omega
 refine ⟨_,rfl,_,_,_,_,a5,fun V5 l5=>(wb (RW.le (V:=V4) (V':=V5) l5 Qv) f (by omega)).mono ?_⟩
 rintro r V6 l6 hA
 have Ov:=hA
 obtain ⟨pa,na,ca,rfl,-⟩:=hA
 have O:V4.Le V6:=fun b o h=>l6 b o (l5 b o h)
 have JX:=a6.trans O
 refine ⟨_,_,_,_,rfl,fun V7 l7=>(c_cells_All Uk (Ov.le l7) (hy.le (JX.trans l7)) (hz.le (JX.trans l7)) sy sz).mono ?_⟩
 rintro r V8 l8 ⟨-,h2⟩
 obtain ⟨p1,n1,c1,p2,n2,c2,rfl,Q,R⟩:=(h2 t Vy).2 (by omega)
 have SI:=l7.trans l8
 have SF:=O.trans SI
 have NP:=JX.trans SI
 have e1:=Q.len
 have e2:=R.len
 rw [List.length_map] at e1 e2
 refine ⟨_,_,_,_,_,_,_,rfl,.inl rfl,(fun C=>by cases C),fun _=>⟨fun C=>?_,fun _ b6 S=>(tG (RW.le (V:=V4) (V':=b6) (SF.trans S) Qv) f (by omega)).mono ?_⟩⟩
 ·rw [e1,e2] at C;simp at C
 rintro r d7 b7 ⟨ps,m,cs,rfl,hL,T⟩
 refine ⟨_,_,_,rfl,fun d8 ME=>(v_ (hL.le ME fun _ _ g=>RLv.le g ME) T b5 JO Xy).mono ?_⟩
 rintro r d9 dL ⟨fp,fn,fc,P,rfl,hP,Zi,U3⟩
 have MH:=S.trans (b7.trans (ME.trans dL))
 have uj:=NP.trans MH
 have SG:=SI.trans MH
 have b8:=hP.len
 subst b8
 have E:∀(i:Nat)(d:i<(partsC t []).length),∃U,bj ((partsC t [])[i].1.map Prod.fst) [] []=some U/\zm ((partsC t [])[i].1.map Prod.fst)=true/\(∀l∈(partsC t [])[i].1.map Prod.fst,Bd l)/\∀x,mw U x=mw (partsC t [])[i].1 x:=fun i d=>by
  obtain ⟨M,hM,hk⟩:=a9 _ (List.getElem_mem d)
  have b9:=a8 _ (List.getElem_mem d)
  have c0:=a7 _ (List.getElem_mem d)
  obtain ⟨U,g1,-,g3⟩:=Dh hM hk
  refine ⟨U,g1,MQ (by rw [List.length_map];simp only [List.length_nil] at c0;omega) (Cn hM hk),fun l N=>?_,fun x=>G_ g3 x⟩
  obtain ⟨s,hs,rfl⟩:=List.mem_map.1 N
  exact b9 s hs
 have OD:∀x∈P,(∀p∈partsC t [],(∀s∈p.1,0<=aj s.1 x.1 x.2)->jF p.1 x):=fun x k=>B x (Ic (U3 x k).2.2)
 clear B
 generalize partsC t []=A at *
 subst e1 e2
 refine ⟨_,_,_,rfl,fun z _=>∃j:Nat,z=(j:Int)/\j<=P.length,fun z=>P.length-z.toNat,⟨0,by and_intros<;>rfl,0,rfl,Nat.zero_le _⟩,?_⟩
 rintro w e0 K ⟨j,rfl,e3⟩
 have Vl:=K
 refine ⟨by trivial,fun a=>?_,fun a QR DF=>(vW (hy.le (uj.trans (K.trans DF))) (hz.le (uj.trans (K.trans DF))) sy sz).mono ?_⟩
 rotate_left
 ·rintro r Qm Jg rfl
  exact ⟨_,rfl,fun Qn BG=>rfl⟩
 have a:(j:Int)<P.length:=of_decide_eq_true a
 have hj:j<P.length:=by omega
 have wj:i64.wrap ((j:Int)+1)=((j+1:Nat):Int):=by rw [i64w (by omega)];rfl
 rw [wj,Int.toNat_natCast]
 obtain ⟨is,_,_,_,_,_,_,_,_,_,_,_,_,_,_,ad,a0,k0,k1,k2,k3,k4,k5,gp⟩:=J_ (hP.le K fun _ _ g=>Fh.le g K) hj
 obtain ⟨s1,s2,-⟩:=U3 _ (List.getElem_mem hj)
 have W:=OD _ (List.getElem_mem hj)
 have c3:=FQ P[j]
 have c4:=fun p hp=>@OG P[j] p hp
 generalize P[j]=x at *
 obtain ⟨P0,U2,D⟩:=c3
 obtain ⟨i0,c5,rfl⟩:=List.mem_iff_getElem.1 U2
 have R6:=W _ U2 D
 refine ⟨is,⟨by omega,by omega⟩,_,_,_,_,_,_,_,_,_,_,_,_,_,_,ad,a0,k0,k1,k2,k3,k4,k5,fun z _=>∃i:Nat,z.2=(i:Int)/\i<=A.length/\z.1=(if i0<i then 1 else 0),fun z=>A.length-z.2.toNat,⟨(0,0),by and_intros<;>rfl,0,rfl,Nat.zero_le _,by rw [if_neg (Nat.not_lt_zero _)]⟩,?_⟩
 rintro ⟨zc,zi⟩ lW cY ⟨i,ei,e5,ec⟩
 dsimp only at ei ec ⊢
 subst ei ec
 have HK:=K.trans cY
 have MI:=MH.trans HK
 have SH:=SG.trans HK
 have FU:=uj.trans HK
 refine ⟨by trivial,fun a=>?_,fun a=>⟨fun h=>?_,fun _=>⟨((j+1:Nat):Int),by (try dsimp only);omega,by and_intros<;>rfl,j+1,rfl,hj⟩⟩⟩
 rotate_left
 ·have a:¬(i:Int)<A.length:=of_decide_eq_false a
  rw [if_pos (by omega)] at h
  simp at h
 have a:(i:Int)<A.length:=of_decide_eq_true a
 have d:i<A.length:=by omega
 have wi:i64.wrap ((i:Int)+1)=((i+1:Nat):Int):=by rw [i64w (by omega)];rfl
 rw [wi,Int.toNat_natCast]
 obtain ⟨Sx,q1,m1,x1,LN,b0,b1,-,gm⟩:=HU (Q.le MI fun _ _ g=>RCl1.le g MI) (i:=i) (by rw [List.length_map];exact d)
 rw [List.getElem_map] at gm
 obtain ⟨U,c6,c7,c8,F⟩:=E i d
 have F:=F x
 have u:(mw A[i].1 x=2/\i=i0/\inC A[i].1 x=true)\/(mw A[i].1 x=0/\i≠i0):=by
  cases J:hasC A[i].1 x with
  | true=>
   have G:=W _ (List.getElem_mem d) (ub.1 J)
   exact .inl ⟨Ha.2 (sN.2 G),DR RY d c5 G R6,sN.2 G⟩
  | false=>
   refine .inr ⟨FD.2 J,fun e=>?_⟩
   subst e
   rw [ub.2 D] at J;cases J
 refine ⟨Sx,⟨by omega,by omega⟩,q1,m1,x1,LN,b0,b1,fun nQ cN=>(qO (gp.le (cY.trans cN)) s1 s2 (by omega)).mono ?_⟩
 rintro r qG dU hq
 have c9:=hq
 obtain ⟨_,_,_,_,_,_,_,_,_,_,_,_,_,_,rfl,-⟩:=hq
 have qW:=cN.trans dU
 refine ⟨_,_,_,_,_,_,_,_,_,_,_,_,_,_,rfl,fun sZ X=>(rN (ls:=A[i].1.map Prod.fst) (x:=x) (Ph (gm.le (qW.trans X) fun _ _ g=>RLv.le g (qW.trans X))) c8 (ApS.of (p:=x) (c9.le X) s1 s2 (by omega)) (s1.mono (by omega)) (s2.mono (by omega)) (hy.le (FU.trans (qW.trans X)))).mono ?_⟩
 rintro r C3 jg H
 have H:=H.some c7 c6
 subst H
 rw [F]
 have Ln:=qW.trans (X.trans jg)
 refine ⟨_,_,rfl,.inl rfl,(fun C=>by cases C),fun _=>⟨fun h=>?_,fun _=>⟨fun h xj gS=>(qO (gp.le (cY.trans (Ln.trans gS))) s1 s2 (by omega)).mono ?_,fun h=>⟨(_,((i+1:Nat):Int)),by dsimp only;omega,by and_intros<;>rfl,i+1,rfl,d,?_⟩⟩⟩⟩
 ·rcases u with ⟨e,-⟩|⟨e,-⟩<;>rw [e] at h<;>simp at h
 rotate_left
 ·rcases u with ⟨e,-⟩|⟨e,ne⟩
  ·rw [e] at h;simp at h
  ·show (if i0<i then (1:Int) else 0)=_
   by_cases c:i0<i
   ·rw [if_pos c,if_pos (by omega)]
   ·rw [if_neg c,if_neg (by omega)]
 have Y:mw A[i].1 x=2:=by simpa using h
 rcases u with ⟨-,rfl,d2⟩|⟨e,-⟩
 rotate_left
 ·rw [e] at Y;cases Y
 rintro r Jc xY Z
 have Se:=Z
 obtain ⟨_,_,_,_,_,_,_,_,_,_,_,_,_,_,rfl,-⟩:=Z
 have HM:=Ln.trans (gS.trans xY)
 refine ⟨_,_,_,_,_,_,_,_,_,_,_,_,_,_,rfl,fun GL v=>(vY Uk (Ov.le (SH.trans (HM.trans v))) (ApS.of (p:=x) (Se.le v) s1 s2 (by omega)) (s1.mono (by omega)) (s2.mono (by omega)) (hy.le (FU.trans (HM.trans v)))).mono ?_⟩
 rintro r LL d3 ⟨-,I⟩
 have I:=I t Vy
 rw [c4 A[i] (List.getElem_mem d) (sN.1 d2)] at I
 subst I
 have SJ:=MI.trans (HM.trans (v.trans d3))
 obtain ⟨XX,QW,d0,d1⟩:=HS (R.le SJ fun _ _ g=>g) (i:=i) (by rw [List.length_map];exact d)
 rw [List.getElem_map] at d1
 have Om:xK (A[i].2,true)=(if A[i].2=true then -2 else -1):=rfl
 refine ⟨_,_,_,rfl,.inl rfl,(fun C=>by cases C),fun _=>⟨fun h=>by simp at h,fun _=>⟨XX,⟨by omega,by omega⟩,_,⟨QW,d0,d1⟩,fun h=>?_,fun _=>⟨(_,((i+1:Nat):Int)),by dsimp only;omega,by and_intros<;>rfl,i+1,rfl,d,?_⟩⟩⟩⟩
 ·rw [Om] at h;simp at h
 ·rw [if_neg (by omega),if_pos (by omega)]
  rfl
end Go.Proofs.Tryz
