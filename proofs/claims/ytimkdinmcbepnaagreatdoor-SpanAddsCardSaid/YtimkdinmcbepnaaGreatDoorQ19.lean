/- A part of the proof (joined by program from: SpanB, NewA, SceneE, VLaw6, Law6A, Law6B, LenP, VLaw6E, SpanE, Law6E). -/
import Derived.Test.YtimkdinmcbepnaaGreatDoorQ15
import Derived.Test.YtimkdinmcbepnaaGreatDoorQ18
import Derived.Test.YtimkdinmcbepnaaGreatDoorQ12
import Derived.Test.YtimkdinmcbepnaaGreatDoorQ13
import Derived.Test.YtimkdinmcbepnaaGreatDoorQ5
import Derived.Test.YtimkdinmcbepnaaGreatDoorQ17
set_option linter.unusedVariables false
open Go.IntKind (i64 u64 u32)
/- Contracts: sets of intervals: read, joined, cut, written; the functions of package span. -/
namespace Go.Proofs.Tryz
open Go.Eng Go.Big
/-- A regular set with few ends and small numbers. -/
structure Ok6 (l:List Sp) (m:Nat):Prop where
 rg:reg l
 sz:∀s ∈ l,s.sz 10000
 fe:fe l<=m
 len:l.length<=m + 1
theorem Ok6.comb {a b:List Sp} {m n:Nat} (ha:Ok6 a m) (hb:Ok6 b n) (op:Int):Ok6 (combL op a b) (m + n):=
 ⟨comb_reg _ _ _,comb_sz (by decide) ha.sz hb.sz,Nat.le_trans (comb_fe op a b) (Nat.add_le_add ha.fe hb.fe),Nat.le_trans (comb_len op a b) (by have:=ha.fe; have:=hb.fe; omega)⟩
theorem c_U1 (a b:Bool) (W:View):Acts prog 127 #[.bool a,.bool b] W fun r _=>r=.bool (opB 1 a b):=
 vc_geo_Set_Union_1 a b W _ ⟨fun h V l=>by subst h; simp [opB],fun h V l=>by subst h; simp [opB]⟩
theorem c_I1 (a b:Bool) (W:View):Acts prog 128 #[.bool a,.bool b] W fun r _=>r=.bool (opB 2 a b):=
 vc_geo_Set_Intersect_1 a b W _ ⟨fun h V l=>by subst h; simp [opB],fun h V l=>by subst h; simp [opB]⟩
/-- A function that joins two sets. -/
def Joins (f:Nat) (op:Int):Prop:=∀{V:View} {p:OA} {n c:Nat} {q:OA} {m d:Nat} {A B:List Sp} {x y:Nat},Lst 8 RIv V p n A->Lst 8 RIv V q m B->Ok6 A x->Ok6 B y->x + y < 50 ->
 Acts prog f #[.slice p n c,.slice q m d] V fun r V'=>∃q m e,r=.slice q m e/\Lst 8 RIv V' q m (combL op A B)
theorem sweep_of {V:View} {p:OA} {n c:Nat} {q:OA} {m d:Nat} {A B:List Sp} {x y fa:Nat} {op:Int} (hA:Lst 8 RIv V p n A) (hB:Lst 8 RIv V q m B) (oA:Ok6 A x) (oB:Ok6 B y) (h:x + y < 50) (hf:∀a b (W:View),Acts prog fa #[.bool a,.bool b] W fun r _=>r=.bool (opB op a b)) :
  Acts prog 126 #[.agg #[.slice p n c,.slice q m d],.func (.func fa) #[] #[]] V fun r V'=>∃q m e,r=.slice q m e/\Lst 8 RIv V' q m (combL op A B):=
 c_sweep hA hB oA.rg.1 oB.rg.1 oA.sz oB.sz (by have:=oA.len; omega) (by have:=oB.len; omega) (by have:=oA.fe; have:=oB.fe; omega) hf
theorem c_Set_Union:Joins 61 1:=by
 intro V p n c q m d A B x y hA hB oA oB h
 refine vc_geo_Set_Union p n c q m d V _ fun V1 l1=>(sweep_of (hA.le l1 fun _ _ g=>RIv.le g l1) (hB.le l1 fun _ _ g=>RIv.le g l1) oA oB h c_U1).mono ?_
 rintro r V2 l2 ⟨q,m,e,rfl,g⟩
 exact ⟨_,_,_,rfl,fun V3 l3=>⟨_,_,_,rfl,g.le l3 fun _ _ g=>RIv.le g l3⟩⟩
theorem c_Set_Intersect:Joins 62 2:=by
 intro V p n c q m d A B x y hA hB oA oB h
 refine vc_geo_Set_Intersect p n c q m d V _ fun V1 l1=>(sweep_of (hA.le l1 fun _ _ g=>RIv.le g l1) (hB.le l1 fun _ _ g=>RIv.le g l1) oA oB h c_I1).mono ?_
 rintro r V2 l2 ⟨q,m,e,rfl,g⟩
 exact ⟨_,_,_,rfl,fun V3 l3=>⟨_,_,_,rfl,g.le l3 fun _ _ g=>RIv.le g l3⟩⟩
theorem c_IvsOf {V:View} {p:OA} {n c:Nat} {ls:List Sp} (h:Lst 8 RSp V p n ls) (hn:ls.length<=1000) (hg:∀s ∈ ls,s.good) (hs:∀s ∈ ls,s.sz 10000) :
  Acts prog 88 #[.slice p n c] V fun r V'=>∃q m e,r=.tuple #[.slice q m e,.bool true]/\Lst 8 RIv V' q m ls:=by
 obtain rfl:=h.len
 refine vc_geo_IvsOf p _ c V _ ⟨fun h1=>absurd (of_decide_eq_true h1) (by omega),fun _=>⟨fun z V'=>∃j:Nat,z.2.2.2=(j:Int)/\j<=ls.length/\IR V' z.1 z.2.1 z.2.2.1 (ls.take j),
  fun z=>ls.length - z.2.2.2.toNat,⟨(0,0,[],0),by and_intros <;> rfl,0,rfl,Nat.zero_le _,IR.nil⟩,?_⟩⟩
 rintro ⟨z1,z2,vs,z4⟩ V1 l1 ⟨j,e4,jle,hir⟩
 dsimp only at e4 hir
 subst e4
 have zl:=hir.len
 rw [List.length_take] at zl
 refine ⟨rfl,fun hlt=>?_,fun hlt V4 l4 bk hb=>?_⟩
 ·have hlt:(j:Int) < ls.length:=of_decide_eq_true hlt
  have hi:j < ls.length:=by omega
  obtain ⟨ad,ha,xs,-,hf,hat⟩:=(h.le l1 fun _ _ g=>RSp.le g l1).at_ j hi
  have w:i64.wrap ((j:Int) + 1)=(j:Int) + 1:=i64w (by omega)
  dsimp only
  rw [Int.toNat_natCast,w]
  have hf0:=hf
  obtain ⟨_,_,_,_,_,_,_,_,_,_,_,_,_,_,ex⟩:=sp_shape hf
  have ex:=congrArg Array.toList (Value.agg.inj ex)
  dsimp only at ex
  subst ex
  have hgj:=hg _ (List.getElem_mem hi)
  refine ⟨isSome_addr ha,⟨by omega,by omega⟩,_,_,_,_,_,_,_,_,_,_,_,_,_,_,_,_,ad,ha,hat 0 _ rfl,hat 1 _ rfl,hat 2 _ rfl,hat 3 _ rfl,hat 4 _ rfl,hat 5 _ rfl,hat 6 _ rfl,hat 7 _ rfl,fun V2 l2=>(c_IvOf_ok (hf0.le l2) hgj.1 hgj.2 (hs _ (List.getElem_mem hi)) (by decide)).mono ?_⟩
  rintro r V3 l3 ⟨w,rfl,x1,x2,q,y1,y2,q',rfl,r1,r2⟩
  refine ⟨_,_,_,_,_,_,_,_,_,rfl,(fun h=>nomatch h),fun _=>⟨by omega,hir.le,hir.cap,rfl,one8,fun sp c' h1 h2=>⟨(z1 + 1,c',_,(j:Int) + 1),by dsimp only; omega,by and_intros <;> rfl,j + 1,rfl,hi,?_⟩⟩⟩
  dsimp only
  rw [List.take_add_one,List.getElem?_eq_getElem hi]
  exact (hir.mono (l2.trans l3)).snoc r1 r2 h1 h2
 ·have hlt:¬ (j:Int) < ls.length:=of_decide_eq_false hlt
  obtain rfl:j=ls.length:=by omega
  rw [List.take_length] at hir
  obtain rfl:=hir.len
  exact ⟨_,_,_,rfl,Lst.of_mrow hb (hir.row.le fun _ _ g=>RIv.le g l4) (by decide) hir.le⟩
theorem c_SetOf {V:View} {p:OA} {n c:Nat} {ls:List Sp} (h:Lst 8 RSp V p n ls) {m:Nat} (ho:Ok6 ls m) (hm:m < 100) :
  Acts prog 63 #[.slice p n c] V fun r V'=>∃q m e,r=.tuple #[.slice q m e,.bool true]/\Lst 8 RIv V' q m ls:=by
 have hn:=ho.len
 refine vc_geo_SetOf p n c V _ fun V1 l1=>(c_IvsOf (h.le l1 fun _ _ g=>RSp.le g l1) (by omega) ho.rg.1 ho.sz).mono ?_
 rintro r V2 l2 ⟨q,k,e,rfl,g⟩
 obtain rfl:=g.len
 refine ⟨_,_,_,_,rfl,(fun h=>nomatch h),fun _=>⟨fun z V'=>∃j:Nat,z=(j:Int)/\j<=ls.length,fun z=>ls.length - z.toNat,⟨0,by and_intros <;> rfl,0,rfl,Nat.zero_le _⟩,?_⟩⟩
 rintro z V4 l4 ⟨j,rfl,jle⟩
 refine ⟨rfl,fun hlt=>?_,fun hlt V10 l10=>⟨_,_,_,rfl,g.le (l4.trans l10) fun _ _ g=>RIv.le g (l4.trans l10)⟩⟩
 have hlt:(j:Int) < ls.length:=of_decide_eq_true hlt
 have hi:j < ls.length:=by omega
 have g4:=g.le l4 fun _ _ g=>RIv.le g l4
 obtain ⟨ad,ha,xs,-,⟨x1,x2,q1,y1,y2,q2,ex,r1,r2⟩,hat⟩:=g4.at_ j hi
 have ex:=congrArg Array.toList (Value.agg.inj ex)
 dsimp only at ex
 subst ex
 have w:i64.wrap ((j:Int) + 1)=((j + 1:Nat):Int):=by rw [i64w (by omega)]; rfl
 rw [Int.toNat_natCast,w]
 refine ⟨isSome_addr ha,⟨by omega,by omega⟩,_,_,_,_,_,_,_,_,ad,ha,hat 0 _ rfl,hat 1 _ rfl,hat 2 _ rfl,hat 3 _ rfl,hat 4 _ rfl,hat 5 _ rfl,hat 6 _ rfl,hat 7 _ rfl,fun h0=>?_,fun h0=>⟨((j + 1:Nat):Int),by dsimp only; omega,by and_intros <;> rfl,j + 1,rfl,hi⟩⟩
 have h0:(j:Int) > 0:=of_decide_eq_true h0
 obtain ⟨i,rfl⟩:∃i,j=i + 1:=⟨j - 1,by omega⟩
 have hi':i < ls.length:=by omega
 obtain ⟨b1,b2,b3⟩:=List.pairwise_iff_getElem.1 ho.rg.2 i (i + 1) hi' hi (by omega)
 have w2:i64.wrap (((i + 1:Nat):Int) - 1)=(i:Int):=by rw [i64w (by omega)]; omega
 rw [w2,Int.toNat_natCast]
 obtain ⟨ad',ha',xs,-,⟨u1,u2,p1,v1,v2,p2,ex,r1',r2'⟩,hat'⟩:=g4.at_ i hi'
 have ex:=congrArg Array.toList (Value.agg.inj ex)
 dsimp only at ex
 subst ex
 have hat7:=hat' 7 _ rfl
 have hat3:=hat' 3 _ rfl
 have hat4:=hat' 4 _ rfl
 have hat5:=hat' 5 _ rfl
 have A7:addrAdd (addrAdd q (i * 8)) 7=some (ad'.add 7):=by rw [ha']; rfl
 have A3:addrAdd (addrAdd q (i * 8)) 3=some (ad'.add 3):=by rw [ha']; rfl
 refine ⟨fun h=>(by rw [b2] at h; cases h),fun _=>⟨isSome_addr ha',⟨by omega,by omega⟩,by rw [ha']; rfl,_,⟨_,A7,hat7⟩,fun h=>(by rw [b1] at h; cases h),fun _=>⟨isSome_addr ha',⟨by omega,by omega⟩,by rw [ha']; rfl,v1,v2,p2,_,A3,by rw [adr_add2]; exact hat3,by rw [adr_add2]; exact hat4,by rw [adr_add2]; exact hat5,fun V7 l7=>(c_R_Cmp (r2'.le l7) (r1.le l7) (ho.sz _ (List.getElem_mem hi')).2 (ho.sz _ (List.getElem_mem hi)).1 (by decide)).mono ?_⟩⟩⟩
 rintro r V8 l8 rfl
 refine ⟨_,rfl,fun h=>?_,fun _=>⟨((i + 1 + 1:Nat):Int),by dsimp only; omega,by and_intros <;> rfl,i + 1 + 1,rfl,hi⟩⟩
 have h:=of_decide_eq_true h
 rcases cmpQ_or ls[i].hi ls[i + 1].lo with ⟨h1,e⟩ | ⟨h1,e⟩ | ⟨h1,e⟩ <;> rw [e] at h <;> grind
/-! package span -/
theorem c_span_two {V:View} {p:OA} {n c:Nat} {q:OA} {m d:Nat} {A B:List Sp} {x y fa:Nat} {op:Int} (hA:Lst 8 RSp V p n A) (hB:Lst 8 RSp V q m B) (oA:Ok6 A x) (oB:Ok6 B y) (h:x + y < 50) (hf:Joins fa op) :
  Acts prog 60 #[.slice p n c,.slice q m d,.func (.func fa) #[] #[]] V fun r V'=>∃q m e,r=.tuple #[.slice q m e,.nilIface]/\Lst 8 RSp V' q m (combL op A B):=by
 have oC:=oA.comb oB op
 refine vc_span_two p n c q m d fa V _ fun V1 l1=>(c_SetOf (hA.le l1 fun _ _ g=>RSp.le g l1) oA (by omega)).mono ?_
 rintro r V2 l2 ⟨p1,n1,d1,rfl,g1⟩
 refine ⟨_,_,_,_,rfl,fun V3 l3=>(c_SetOf (hB.le (l1.trans (l2.trans l3)) fun _ _ g=>RSp.le g (l1.trans (l2.trans l3))) oB (by omega)).mono ?_⟩
 rintro r V4 l4 ⟨p2,n2,d2,rfl,g2⟩
 refine ⟨_,_,_,_,rfl,(fun h=>nomatch h),fun _=>⟨(fun h=>nomatch h),fun _ V7 l7=>(hf (g1.le (l3.trans (l4.trans l7)) fun _ _ g=>RIv.le g (l3.trans (l4.trans l7))) (g2.le l7 fun _ _ g=>RIv.le g l7) oA oB h).mono ?_⟩⟩
 rintro r V8 l8 ⟨p3,n3,d3,rfl,g3⟩
 refine ⟨_,_,_,rfl,fun V9 l9=>(c_Set_API (g3.le l9 fun _ _ g=>RIv.le g l9) (by have:=oC.len; omega) oC.sz (by decide)).mono ?_⟩
 rintro r V10 l10 ⟨p4,n4,d4,rfl,g4⟩
 exact ⟨_,_,_,rfl,fun V11 l11=>⟨_,_,_,rfl,g4.le l11 fun _ _ g=>RSp.le g l11⟩⟩
def SJoins (f:Nat) (op:Int):Prop:=∀{V:View} {p:OA} {n c:Nat} {q:OA} {m d:Nat} {A B:List Sp} {x y:Nat},Lst 8 RSp V p n A->Lst 8 RSp V q m B->Ok6 A x->Ok6 B y->x + y < 50 ->
 Acts prog f #[.slice p n c,.slice q m d] V fun r V'=>∃q m e,r=.tuple #[.slice q m e,.nilIface]/\Lst 8 RSp V' q m (combL op A B)
theorem c_span_Union:SJoins 13 1:=by
 intro V p n c q m d A B x y hA hB oA oB h
 refine vc_span_Union p n c q m d V _ fun V1 l1=>(c_span_two (hA.le l1 fun _ _ g=>RSp.le g l1) (hB.le l1 fun _ _ g=>RSp.le g l1) oA oB h c_Set_Union).mono ?_
 rintro r V2 l2 ⟨q,m,e,rfl,g⟩
 exact ⟨_,_,_,_,rfl,fun V3 l3=>⟨_,_,_,rfl,g.le l3 fun _ _ g=>RSp.le g l3⟩⟩
theorem c_span_Intersect:SJoins 14 2:=by
 intro V p n c q m d A B x y hA hB oA oB h
 refine vc_span_Intersect p n c q m d V _ fun V1 l1=>(c_span_two (hA.le l1 fun _ _ g=>RSp.le g l1) (hB.le l1 fun _ _ g=>RSp.le g l1) oA oB h c_Set_Intersect).mono ?_
 rintro r V2 l2 ⟨q,m,e,rfl,g⟩
 exact ⟨_,_,_,_,rfl,fun V3 l3=>⟨_,_,_,rfl,g.le l3 fun _ _ g=>RSp.le g l3⟩⟩
theorem c_SameAll {V:View} {p:OA} {n c:Nat} {q:OA} {m d:Nat} {A:List Sp} (hA:Lst 8 RSp V p n A) (hB:Lst 8 RSp V q m A) (hn:A.length<=1000) (hs:∀s ∈ A,s.sz 10000) :
  Acts prog 18 #[.slice p n c,.slice q m d] V fun r V'=>r=.bool true:=by
 obtain rfl:=hA.len
 obtain rfl:=hB.len
 refine vc_ref06_SameAll p _ c q _ d V _ ⟨fun h=>by simp at h,fun _=>⟨fun z V'=>∃j:Nat,z=(j:Int)/\j<=A.length,fun z=>A.length - z.toNat,⟨0,by and_intros <;> rfl,0,rfl,Nat.zero_le _⟩,?_⟩⟩
 rintro z V2 l2 ⟨j,rfl,jle⟩
 refine ⟨rfl,fun hlt=>?_,fun hlt V6 l6=>rfl⟩
 have hlt:(j:Int) < A.length:=of_decide_eq_true hlt
 have hi:j < A.length:=by omega
 obtain ⟨ad,ha,xs,-,hf,hat⟩:=(hA.le l2 fun _ _ g=>RSp.le g l2).at_ j hi
 obtain ⟨ad',ha',ys,-,hf',hat'⟩:=(hB.le l2 fun _ _ g=>RSp.le g l2).at_ j hi
 have hf0:=hf
 have hf0':=hf'
 obtain ⟨_,_,_,_,_,_,_,_,_,_,_,_,_,_,ex⟩:=sp_shape hf
 obtain ⟨_,_,_,_,_,_,_,_,_,_,_,_,_,_,ey⟩:=sp_shape hf'
 have ex:=congrArg Array.toList (Value.agg.inj ex)
 have ey:=congrArg Array.toList (Value.agg.inj ey)
 dsimp only at ex ey
 subst ex ey
 have w:i64.wrap ((j:Int) + 1)=((j + 1:Nat):Int):=by rw [i64w (by omega)]; rfl
 rw [Int.toNat_natCast,w]
 refine ⟨isSome_addr ha,⟨by omega,by omega⟩,_,_,_,_,_,_,_,_,_,_,_,_,_,_,_,_,ad,ha,hat 0 _ rfl,hat 1 _ rfl,hat 2 _ rfl,hat 3 _ rfl,hat 4 _ rfl,hat 5 _ rfl,hat 6 _ rfl,hat 7 _ rfl,isSome_addr ha',⟨by omega,by omega⟩,_,_,_,_,_,_,_,_,_,_,_,_,_,_,_,_,ad',ha',hat' 0 _ rfl,hat' 1 _ rfl,hat' 2 _ rfl,hat' 3 _ rfl,hat' 4 _ rfl,hat' 5 _ rfl,hat' 6 _ rfl,hat' 7 _ rfl,fun V3 l3=>(c_ref06_Same (hf0.le l3) (hf0'.le l3) (hs _ (List.getElem_mem hi)) (by decide)).mono ?_⟩
 rintro r V4 l4 rfl
 exact ⟨_,rfl,(fun h=>nomatch h),fun _=>⟨((j + 1:Nat):Int),by dsimp only; omega,by and_intros <;> rfl,j + 1,rfl,hi⟩⟩
end Go.Proofs.Tryz
/- A new block that is handed back; scene.New. -/
namespace Go.Proofs.Tryz
open Go.Eng Go.Big
/-- All that is there is hidden. -/
def hideAll (V:View):View:=⟨V.w,fun b=>b < V.w.heap.size,fun _=>False,fun _ h=>h,fun _ h=>h.elim⟩
/-- A block that is seen when all was hidden is new. -/
theorem acts_fresh {f:FuncId} {args:Array Value} {V:View} {o:Obj} (h:Acts prog f args (hideAll V) fun r V'=>∃bk,r=.pointer (some ⟨bk,0,none⟩)/\V'.blk bk o) :
  Acts prog f args V fun r V'=>∃bk,r=.pointer (some ⟨bk,0,none⟩)/\V.w.heap.size<=bk/\V'.blk bk o:=
 ⟨h.1,h.2.mono fun _ _ ⟨_,he,hx,bk,hr,hb⟩=>⟨_,he,⟨hx.size,fun b hb _=>hx.blk b hb (fun h=>h),hx.os,hx.tape,hx.out⟩,bk,hr,Nat.le_of_not_lt hb.1,fun hh=>hb.1 (V.hH bk hh),hb.2⟩⟩
theorem c_scene_New {V:View} {lp:OA} {ln lc:Nat} (hc:ln<=lc) :
  Acts prog 10 #[.slice lp ln lc] V fun r V'=>∃bk,r=.pointer (some ⟨bk,0,none⟩)/\V.w.heap.size<=bk/\V'.blk bk (.cells #[.slice lp (min ln 400) lc,.int .i64 0] 107 (0,0)):=by
 refine acts_fresh (vc_scene_New lp ln lc (hideAll V) _ ?_)
 have e:minI (ln:Int) 400=((min ln 400:Nat):Int):=by
  unfold minI
  simp only [Nat.min_def]
  split <;> split <;> omega
 rw [e,Int.toNat_natCast]
 have:=Nat.min_le_left ln 400
 exact ⟨⟨by omega,by omega⟩,fun V1 l1 bk hb=>⟨bk,rfl,hb⟩⟩
/-- What was seen is seen behind a new block that is hidden. -/
theorem le_fresh {V1 V2 V3:View} {bk:Nat} (l2:V1.Le V2) (hfr:V1.w.heap.size<=bk) (l3:(V2.hide bk).Le V3):V1.Le V3:=fun b o h=>l3 b o ⟨fun hh=>hh.elim (l2 b o h).1 fun e=>by
  have hlt:b < V1.w.heap.size:=by
   rcases Nat.lt_or_ge b V1.w.heap.size with h' | h'
   ·exact h'
   ·have:=h.2; rw [Array.getElem?_eq_none h'] at this; cases this
  have:=e.1
  omega,(l2 b o h).2⟩
end Go.Proofs.Tryz
/- Contracts: the tape's spans and fragments. -/
namespace Go.Proofs.Tryz
open Go.Eng Go.Big
theorem s_half:∀i:Fin 6,(mkRat ((i.1:Int) + 1) 2).num.sign=1/\Sz 10 (mkRat ((i.1:Int) + 1) 2):=by unfold Sz; decide +kernel
theorem rq0 (V:View):RQ V (.agg #[.bool false,.slice none 0 0,.slice none 0 0]) 0:=by have:=RQ.zero (V:=V); simpa using this
theorem sz0 (k:Nat) (hk:0 < k):Sz k (0:Rat):=⟨by show (0:Int).natAbs < _; exact Nat.lt_of_lt_of_le (by decide) (Nat.one_le_two_pow),Nat.one_lt_two_pow (by omega)⟩
theorem c_ref06_Full {V:View}:Acts prog 27 #[] V fun r V'=>RSs V' r ⟨0,0,true,true⟩:=
 vc_ref06_Full V _ fun V1 l1=>⟨_,_,_,_,_,_,_,_,_,_,_,_,_,_,rfl,rq0 _,rq0 _⟩
theorem rs_shape {V:View} {v:Value} {s:Sp} (h:RSs V v s):∃b p n c p' n' c' d q m e q' m' e',v=.agg #[.bool b,.slice p n c,.slice p' n' c',.bool d,.slice q m e,.slice q' m' e',.bool s.a,.bool s.b]:=by
 obtain ⟨_,_,_,_,_,_,_,_,_,_,_,_,_,_,e,-⟩:=h; exact ⟨_,_,_,_,_,_,_,_,_,_,_,_,_,_,e⟩
theorem c_S {V:View} {tb:Nat} {p:OA} {n c:Nat} {at_:Int} (hr:Rdl V p n) (hn:n<=400) (hw:TpAt V tb p n c at_) (hx:V.X tb) (h0:0<=at_) :
  Acts prog 87 #[.pointer (some ⟨tb,0,none⟩)] V fun r V'=>∃(s:Sp) (at':Int),RSs V' r s/\s.can/\s.emp=false/\s.sz 40/\0<=at'/\TpAt V' tb p n c at':=by
 refine vc_scene_Tape_S tb p n c at_ V _ hw hx fun V1 l1 bk1 e1 h1=>(c_Q (V:=V1.lend [bk1]) (hr.le fun b o h=>l1 b o h) hn e1 ⟨by simp,h1⟩ h0).mono ?_
 rintro r V2 l2 ⟨lo,at1,hq,sq,t1,hw1⟩
 have hq0:=hq
 obtain ⟨qa,qb,qc,qd,qe,qf,rfl⟩:=hq.shape
 refine ⟨_,_,_,_,_,_,_,rfl,_,_,_,_,hw1,fun V3 l3 bk7 e3 h3=>(c_Next (V:=V3.lend [bk7]) 6 (hr.le fun b o h=>l3 b o (l2 b o (l1 b o h))) hn e3 ⟨by simp,h3⟩ t1 (by omega) (by omega)).mono ?_⟩
 rintro r V4 l4 ⟨x,at2,rfl,x0,x1,t2,hw2⟩
 obtain ⟨i,rfl⟩:∃i:Nat,x=i:=⟨x.toNat,by omega⟩
 obtain ⟨z1,z2⟩:=s_half ⟨i,by omega⟩
 dsimp only at z1 z2
 have w1:i64.wrap (1 + (i:Int))=(i:Int) + 1:=by rw [i64w (by omega)]; omega
 refine ⟨_,rfl,_,_,_,_,hw2,fun V5 l5=>?_⟩
 rw [w1]
 refine (c_num_Part ((i:Int) + 1) 2 (by omega) (by omega) (by omega) (by omega)).mono ?_
 generalize mkRat ((i:Int) + 1) 2=q at *
 rintro r V6 l6 gp
 have gp0:=gp
 obtain ⟨_,_,_,_,_,_,rfl⟩:=gp.shape
 have l27:∀{V7:View},V6.Le V7->V2.Le V7:=fun l7 b o h=>l7 b o (l6 b o (l5 b o (l4 b o (l3 b o h))))
 refine ⟨_,_,_,_,_,_,_,rfl,fun V7 l7=>(c_num_Plus (hq0.le (l27 l7)) (gp0.le l7) sq z2 (by omega)).mono ?_⟩
 rintro r V8 l8 gh
 have gh0:=gh
 obtain ⟨ga,gb,gc,gd,ge,gf',rfl⟩:=gh.shape
 have sh:Sz 21 (lo + q):=sq.add z2
 have l02:∀{V9:View},V8.Le V9->V.Le V9:=fun l9 b o h=>l9 b o (l8 b o (l7 b o (l6 b o (l5 b o (l4 b o (l3 b o (l2 b o (l1 b o h))))))))
 refine ⟨_,_,_,_,_,_,_,rfl,fun V9 l9 bk17 e9 h9=>(c_Next (V:=V9.lend [bk17]) 8 (hr.le fun b o h=>l02 l9 b o h) hn e9 ⟨by simp,h9⟩ t2 (by omega) (by omega)).mono ?_⟩
 rintro r V10 l10 ⟨y,at3,rfl,y0,y1,t3,hw3⟩
 have l8_10:∀{V11:View},V10.shut.Le V11->V8.Le V11:=fun l11 b o h=>l11 b o (l10 b o (l9 b o h))
 have l2_10:∀{V11:View},V10.shut.Le V11->V2.Le V11:=fun l11=>(l27 l7).trans (l8.trans (l8_10 l11))
 have full:∀(V11 W:View),V10.shut.Le V11->V11.Le W->∀at4,0<=at4->TpAt W tb p n c at4->∃(s:Sp) (at':Int),RSs W (.agg #[.bool (decide (lo.num < 0)),.slice qa qb qc,.slice qd qe qf,.bool (decide ((lo + q).num < 0)),.slice ga gb gc,.slice gd ge gf',.bool false,.bool false]) s/\s.can/\s.emp=false/\s.sz 40/\0<=at'/\TpAt W tb p n c at':=fun V11 W l11 lw at4 t4 e4=>
  ⟨⟨lo,lo + q,false,false⟩,at4,⟨_,_,_,_,_,_,_,_,_,_,_,_,_,_,rfl,hq0.le ((l2_10 l11).trans lw),gh0.le ((l8_10 l11).trans lw)⟩,⟨(fun h=>nomatch h),(fun h=>nomatch h)⟩,by
   have e:cmpQ lo (lo + q)=- q.num.sign:=by
    rw [cmpQ_swap]
    unfold cmpQ
    rw [show lo + q - lo=q from by grind]
   unfold Sp.emp
   dsimp only
   rw [e,z1]
   rfl,⟨Sz.mono sq (by omega),Sz.mono sh (by omega)⟩,t4,e4⟩
 refine ⟨_,rfl,_,_,_,_,hw3,fun _ V11 l11 e11=>?_,fun _=>⟨fun _ V12 l12 e12=>?_,fun _=>⟨fun _ V13 l13 bk21 e13 h13=>(c_Next (V:=V13.lend [bk21]) 4 (hr.le fun b o h=>l13 b o (l10 b o (l02 l9 b o h))) hn e13 ⟨by simp,h13⟩ t3 (by omega) (by omega)).mono ?_,fun _ V19 l19 e19=>full _ _ l19 (View.Le.refl _) at3 t3 e19⟩⟩⟩
 ·exact ⟨⟨0,lo + q,true,false⟩,at3,⟨_,_,_,_,_,_,_,_,_,_,_,_,_,_,rfl,rq0 _,gh0.le (l8_10 l11)⟩,⟨fun _=>rfl,(fun h=>nomatch h)⟩,rfl,⟨sz0 _ (by omega),Sz.mono sh (by omega)⟩,t3,e11⟩
 ·exact ⟨⟨lo,0,false,true⟩,at3,⟨_,_,_,_,_,_,_,_,_,_,_,_,_,_,rfl,hq0.le (l2_10 l12),rq0 _⟩,⟨(fun h=>nomatch h),fun _=>rfl⟩,rfl,⟨Sz.mono sq (by omega),sz0 _ (by omega)⟩,t3,e12⟩
 ·rintro r V14 l14 ⟨z,at4,rfl,-,-,t4,hw4⟩
  refine ⟨_,rfl,_,_,_,_,hw4,fun _ V15 l15=>c_ref06_Full.mono ?_,fun _ V18 l18 e18=>full _ _ l13 (fun b o h=>l18 b o (l14 b o h)) at4 t4 e18⟩
  rintro r V16 l16 gf
  have gf0:=gf
  obtain ⟨_,_,_,_,_,_,_,_,_,_,_,_,_,_,rfl⟩:=rs_shape gf
  exact ⟨_,_,_,_,_,_,_,_,_,_,_,_,_,_,_,_,rfl,fun V17 l17 e17=>⟨⟨0,0,true,true⟩,at4,gf0.le l17,⟨fun _=>rfl,fun _=>rfl⟩,rfl,⟨sz0 _ (by omega),sz0 _ (by omega)⟩,t4,e17⟩⟩
end Go.Proofs.Tryz
/- By program: the conditions of the functions, from their loaded code. -/
namespace Go.Proofs.Tryz
open Go.Eng
open Go.Value renaming int→I,pointer→P,slice→S,agg→A,bool→B,tuple→T
open Go.IntKind renaming i64→J,u64→U,u32→W
set_option maxRecDepth 100000
theorem vc_law06_made (a:Nat) (e:OA) (f g:Nat) (i:Int) (V:View) (R:VR) (hw100000:V.w.heap[a]?=some (.cells #[S e f g,I J i] 107 (0,0))) (hx100000:V.X a) (h:(∀d,V.Le d->∀b:Nat,(d.w.heap[b]?=some (.cells #[S e f g,I J i] 107 (0,0)))->(d.H b)->Acts prog 25 #[P (some ⟨b,0,none⟩),I J 4] (d.lend [b]) fun z l=>∃m n o,z=S m n o/\∃p q r,∃s,l.w.heap[b]?=some (.cells #[S p q r,I J s] 107 (0,0))/\(∀t,l.shut.Le t->Acts prog 20 #[I J 1,S m n o,S none 0 0] t fun a0 a1=>∃u x y,a0=S u x y/\(∀k,a1.Le k->k.w.heap[a]?=some (.cells #[S p q r,I J s] 107 (0,0))->R (S u x y) k)))):
 Acts prog 12 #[P (some ⟨a,0,none⟩)] V R:=
 fn_does (LF:=LF0) (RF:=[1000010]) (β0:=(upd1 (fun _=>0) 100000 a)) tab_ok mixed [] [] func12 (by kernel_rfl) [(0,.c (.ptr 100000 0))] [(100000,⟨.lit [.v (S e f g),.v (I J i)],107⟩)] (by kernel_rfl) ⟨⟨hw100000,hx100000⟩,trivial,trivial⟩ h (by kernel_rfl)
theorem vc_law06_unit (b c:Int) (V:View) (R:VR) (h:(Ca V 19 #[I J b] fun a9 b0=>∃d,∃e f g,∃i k l,a9=A #[B d,S e f g,S i k l]/\(Ca b0 28 #[A #[B d,S e f g,S i k l]] fun b1 b2=>∃m,∃n o p,∃q r s,b1=A #[B m,S n o p,S q r s]/\(Ca b2 19 #[I J c] fun b3 b4=>∃t,∃u w x,∃y z a0,b3=A #[B t,S u w x,S y z a0]/\(Ca b4 28 #[A #[B t,S u w x,S y z a0]] fun b5 b6=>∃a1,∃a2 a3 a4,∃a5 a6 a7,b5=A #[B a1,S a2 a3 a4,S a5 a6 a7]/\(∀a,b6.Le a->∀a8:Nat,(a.blk a8 (.cells #[B m,S n o p,S q r s,B a1,S a2 a3 a4,S a5 a6 a7,B false,B false] 77 (0,0)))->R (S (some ⟨a8,0,none⟩) 1 1) a)))))):
 Acts prog 67 #[I J b,I J c] V R:=
 fd (LF:=LF0) (RF:=[1000010]) [] [] func67 h
theorem vc_law06_known (V:View) (R:VR) (h:(Ca V 67 #[I J 0,I J 1] fun a5 a6=>∃e f g,a5=S e f g/\(Ca a6 67 #[I J 1,I J 2] fun a7 a8=>∃i k l,a7=S i k l/\(Ca a8 13 #[S e f g,S i k l] fun a9 b0=>∃m n o,∃a,a9=T #[S m n o,a]/\(Ca b0 67 #[I J 0,I J 1] fun b1 b2=>∃p q r,b1=S p q r/\(Ca b2 67 #[I J 1,I J 2] fun b3 b4=>∃s t u,b3=S s t u/\(Ca b4 14 #[S p q r,S s t u] fun b5 c=>∃b6 w b7,∃b,b5=T #[S b6 w b7,b]/\(IsIface a)/\(((isNilI a)=true->(IsIface b)/\(((isNilI b)=true->(Ca c 67 #[I J 0,I J 2] fun b8 b9=>∃x y z,b8=S x y z/\(Ca b9 18 #[S m n o,S x y z] fun c0 a0=>∃d,c0=B d/\((d=true->(Rt a0 R (B ((w:Int) == (0:Int)))))/\(d=false->(Rt a0 R (B false)))))))/\((isNilI b)=false->(Rt c R (B false)))))/\((isNilI a)=false->(Rt c R (B false))))))))))):
 Acts prog 17 #[] V R:=
 fd (LF:=LF0) (RF:=[1000010]) [] [] func17 h
end Go.Proofs.Tryz
/- Law 06: SpanAlgebra. -/
namespace Go.Proofs.Tryz
open Go.Eng Go.Big
/-- Any row as it grows. -/
structure GR {α:Type} (sz:Nat) (R:View->Value->α->Prop) (V:View) (n c:Nat) (vs:List Value) (l:List α):Prop where
 len:n=l.length
 le:n<=c
 cap:c * sz<=vs.length
 row:Row sz R V vs l
theorem GR.nil {α:Type} {sz:Nat} {R:View->Value->α->Prop} {V:View}:GR sz R V 0 0 [] []:=⟨rfl,Nat.le_refl _,by simp,Row.nil⟩
theorem GR.mono {α:Type} {sz:Nat} {R:View->Value->α->Prop} {V V':View} {n c:Nat} {vs:List Value} {l:List α} (h:GR sz R V n c vs l) (m:∀v a,R V v a->R V' v a):GR sz R V' n c vs l:=⟨h.len,h.le,h.cap,h.row.le m⟩
theorem GR.snoc {α:Type} {sz:Nat} {R:View->Value->α->Prop} {V:View} {n c:Nat} {vs:List Value} {l:List α} (h:GR sz R V n c vs l) {xs:List Value} {a:α} (hx:xs.length=sz) (ha:R V (.agg xs.toArray) a) (h0:0 < sz) {sp:List Value} {c':Nat} (h1:n + 1<=c') (h2:c' * sz<=(n + 1) * sz + sp.length) :
  GR sz R V (n + 1) c' (vs.take (n * sz)++xs++sp) (l++[a]):=by
 have hn:=h.len
 have hc:=h.cap
 have hl:n * sz<=c * sz:=Nat.mul_le_mul_right _ h.le
 refine ⟨by rw [List.length_append,hn]; rfl,h1,?_,?_⟩
 ·have ht:(vs.take (n * sz)).length=n * sz:=by rw [List.length_take]; omega
  rw [List.length_append,List.length_append,ht,hx]
  rw [Nat.succ_mul] at h2
  exact h2
 ·have:=h.row.snoc (sp:=sp) hx ha h0
  rw [← hn] at this
  exact this
theorem one8s {b:Bool} {p:OA} {n c:Nat} {p':OA} {n' c':Nat} {d:Bool} {q:OA} {m e:Nat} {q':OA} {m' e':Nat} {x y:Bool}:∀v ∈ ([.bool b,.slice p n c,.slice p' n' c',.bool d,.slice q m e,.slice q' m' e',.bool x,.bool y]:List Value),v.oneCell'=true:=by
 intro v hm
 simp only [List.mem_cons,List.not_mem_nil,or_false] at hm
 rcases hm with rfl | rfl | rfl | rfl | rfl | rfl | rfl | rfl <;> rfl
theorem c_Ss {V:View} {tb:Nat} {p:OA} {n c:Nat} {at_:Int} (k:Int) (hr:Rdl V p n) (hn:n<=400) (hw:TpAt V tb p n c at_) (hx:V.X tb) (h0:0<=at_) (hk:0<=k) (hk2:k<=100) :
  Acts prog 25 #[.pointer (some ⟨tb,0,none⟩),.int .i64 k] V fun r V'=>∃(q:OA) (m e:Nat) (l:List Sp) (at':Int),r=.slice q m e/\RSl V' q m l/\(l.length:Int)<=k/\(∀s ∈ l,s.good/\s.sz 40)/\0<=at'/\TpAt V' tb p n c at':=by
 have w:i64.wrap (k + 1)=k + 1:=i64w (by omega)
 refine vc_scene_Tape_Ss tb p n c at_ k V _ hw hx fun V1 l1 bk1 e1 h1=>?_
 rw [w]
 refine (c_Next (V:=V1.lend [bk1]) (k + 1) (hr.le fun b o h=>l1 b o h) hn e1 ⟨by simp,h1⟩ h0 (by omega) (by omega)).mono ?_
 rintro r V2 l2 ⟨x,at1,rfl,x0,x1,t1,hw1⟩
 refine ⟨x,rfl,_,_,_,_,hw1,fun z V'=>∃l:List Sp,GR 8 RSs V' z.1 z.2.1 z.2.2.1 l/\0<=z.2.2.2.1/\(l.length:Int) + z.2.2.2.1<=k/\(∀s ∈ l,s.good/\s.sz 40)/\z.2.2.2.2.1=p/\z.2.2.2.2.2.1=n/\z.2.2.2.2.2.2.1=c/\0<=z.2.2.2.2.2.2.2,
  fun z=>z.2.2.2.1.toNat,⟨(0,0,[],x,p,n,c,at1),by and_intros <;> rfl,[],GR.nil,x0,by show ((0:Nat):Int) + x<=k; omega,fun s h=>(by cases h),rfl,rfl,rfl,t1⟩,?_⟩
 rintro ⟨z1,z2,vs,x',p',n',c',at2⟩ V3 l3 ⟨l,hs,y0,y1,hg,e1,e2,e3,t2⟩
 dsimp only at hs y0 y1 e1 e2 e3 t2
 subst e1 e2 e3
 have sl:=hs.len
 refine ⟨rfl,fun hlt V4 l4 bk9 e9 h9=>?_,fun hlt V6 l6 bk23 e6 hb=>?_⟩
 ·have hlt:x' > 0:=of_decide_eq_true hlt
  refine (c_S (V:=V4.lend [bk9]) (hr.le fun b o h=>l4 b o (l3 b o (l2 b o (l1 b o h)))) hn e9 ⟨by simp,h9⟩ t2).mono ?_
  rintro r V5 l5 ⟨s,at3,hs5,cn,em,sz,t3,hw5⟩
  have hs50:=hs5
  obtain ⟨_,_,_,_,_,_,_,_,_,_,_,_,_,_,rfl⟩:=rs_shape hs5
  dsimp only
  refine ⟨_,_,_,_,_,_,_,_,_,_,_,_,_,_,_,_,rfl,_,_,_,_,hw5,by omega,hs.le,hs.cap,rfl,one8s,fun sp c2 h1 h2=>⟨(z1 + 1,c2,_,x' - 1,p',n',c',at3),by dsimp only; omega,by and_intros <;> first | rfl | exact i64w (by omega),l++[s],
   (hs.mono (V':=V5.shut) fun _ _ g=>RSs.le g fun b o h=>l5 b o (l4 b o h)).snoc rfl (hs50.le (le_shut' _)) (by decide) h1 h2,by dsimp only; omega,by rw [List.length_append]; simp; omega,fun t ht=>?_,rfl,rfl,rfl,t3⟩⟩
  rcases List.mem_append.1 ht with ht | ht
  ·exact hg t ht
  ·rw [List.mem_singleton.1 ht]; exact ⟨⟨cn,em⟩,sz⟩
 ·subst sl
  exact ⟨_,_,_,l,at2,rfl,lst_rsl (Lst.of_mrow hb (hs.row.le fun _ _ g=>RSs.le g l6) (by decide) hs.le),by omega,hg,t2,e6⟩
theorem sz_up {s:Sp} (h:s.sz 40):s.sz 10000:=⟨h.1.mono (by decide),h.2.mono (by decide)⟩
theorem c_made {V:View} {tb:Nat} {p:OA} {n c:Nat} {at_:Int} (hr:Rdl V p n) (hn:n<=400) (hw:TpAt V tb p n c at_) (hx:V.X tb) (h0:0<=at_) :
  Acts prog 12 #[.pointer (some ⟨tb,0,none⟩)] V fun r V'=>∃(q:OA) (m e:Nat) (l:List Sp) (at':Int),r=.slice q m e/\RSl V' q m l/\Ok6 l 8/\(∀s ∈ l,s.sz 40)/\0<=at'/\TpAt V' tb p n c at':=by
 refine vc_law06_made tb p n c at_ V _ hw hx fun V1 l1 bk1 e1 h1=>(c_Ss (V:=V1.lend [bk1]) 4 (hr.le fun b o h=>l1 b o h) hn e1 ⟨by simp,h1⟩ h0 (by decide) (by decide)).mono ?_
 rintro r V2 l2 ⟨q,m,e,l,at1,rfl,hl,ll,hg,t1,hw1⟩
 refine ⟨_,_,_,rfl,_,_,_,_,hw1,fun V3 l3=>(c_ref06_Combine (op:=1) (la':=l) (lb':=[]) (hl.le fun b o h=>l3 b o h) ⟨rfl,fun i hi=>absurd hi (Nat.not_lt_zero i)⟩ (by simp; omega) (fun s h=>(hg s h).2) (fun s h=>by cases h) (by decide)).mono ?_⟩
 rintro r V4 l4 ⟨q',m',e',rfl,g⟩
 have hsz:∀s ∈ combL 1 l [],s.sz 40:=comb_sz (by decide) (fun s h=>(hg s h).2) (fun s h=>by cases h)
 have f1:=comb_fe 1 l []
 have f2:=fe_le l
 have f3:fe []=0:=rfl
 exact ⟨_,_,_,rfl,fun V5 l5 hw5=>⟨_,_,_,combL 1 l [],at1,rfl,g.le l5,⟨comb_reg _ _ _,fun s h=>sz_up (hsz s h),by omega,by have:=comb_len 1 l []; omega⟩,hsz,t1,hw5⟩⟩
/-- The span from a to b. -/
def spU (a b:Int):Sp:=⟨(a:Rat),(b:Rat),false,false⟩
theorem c_unit {V:View} (a b:Int) (ha:-100<=a/\a<=100) (hb:-100<=b/\b<=100) (sa:Sz 10 (a:Rat)) (sb:Sz 10 (b:Rat)):Acts prog 67 #[.int .i64 a,.int .i64 b] V fun r V'=>∃q m e,r=.slice q m e/\Lst 8 RSp V' q m [spU a b]:=by
 refine vc_law06_unit a b V _ fun V1 l1=>(c_num_Of a (by omega) (by omega)).mono ?_
 rintro r V2 l2 g1
 have g10:=g1
 obtain ⟨_,_,_,_,_,_,rfl⟩:=g1.shape
 refine ⟨_,_,_,_,_,_,_,rfl,fun V3 l3=>(c_ref01_ToQ (g10.le l3) sa (by decide)).mono ?_⟩
 rintro r V4 l4 g2
 have g20:=g2
 obtain ⟨_,_,_,_,_,_,_,rfl⟩:=g2.shape
 refine ⟨_,_,_,_,_,_,_,rfl,fun V5 l5=>(c_num_Of b (by omega) (by omega)).mono ?_⟩
 rintro r V6 l6 g3
 have g30:=g3
 obtain ⟨_,_,_,_,_,_,rfl⟩:=g3.shape
 refine ⟨_,_,_,_,_,_,_,rfl,fun V7 l7=>(c_ref01_ToQ (g30.le l7) sb (by decide)).mono ?_⟩
 rintro r V8 l8 g4
 have g40:=g4
 obtain ⟨_,_,_,_,_,_,_,rfl⟩:=g4.shape
 refine ⟨_,_,_,_,_,_,_,rfl,fun V9 l9 bk hbk=>⟨_,_,_,rfl,Lst.of_row (vs:=[.bool _,.slice _ _ _,.slice _ _ _,.bool _,.slice _ _ _,.slice _ _ _,.bool false,.bool false]) hbk (row_one rfl ?_)⟩⟩
 exact ⟨_,_,_,_,_,_,_,_,_,_,_,_,_,_,rfl,⟨(fun h=>nomatch h),fun _=>g20.le (l5.trans (l6.trans (l7.trans (l8.trans l9))))⟩,⟨(fun h=>nomatch h),fun _=>g40.le l9⟩⟩
theorem ok6_one {a b:Int} (h:(a:Rat) < (b:Rat)) (sa:Sz 10 (a:Rat)) (sb:Sz 10 (b:Rat)):Ok6 [spU a b] 2:=
 ⟨⟨fun s hs=>by rw [List.mem_singleton.1 hs]; exact ⟨⟨(fun h=>nomatch h),(fun h=>nomatch h)⟩,by rw [Sp.emp_iff]; exact .inr (.inr h)⟩,List.pairwise_singleton _ _⟩,fun s hs=>by rw [List.mem_singleton.1 hs]; exact ⟨sa.mono (by decide),sb.mono (by decide)⟩,fe_le _,by simp⟩
theorem uni_012:combL 1 [spU 0 1] [spU 1 2]=[spU 0 2]:=by
 refine reg_eq (endsL ([spU 0 1]++[spU 1 2])++[1]) (comb_reg _ _ _) (ok6_one (by decide) (sz_int (by decide) (by decide)) (sz_int (by decide) (by decide))).rg fun t ht=>?_
 simp only [List.mem_append,not_or,List.mem_singleton] at ht
 rw [comb_inB _ _ _ ht.1]
 have h1:=ht.2
 have e0:((0:Int):Rat)=0:=rfl
 have e1:((1:Int):Rat)=1:=rfl
 have e2:((2:Int):Rat)=2:=rfl
 unfold inB spU Sp.innB opB
 rw [e0,e1,e2]
 simp
 grind
theorem int_012:combL 2 [spU 0 1] [spU 1 2]=[]:=by
 refine reg_eq (endsL ([spU 0 1]++[spU 1 2])++[1]) (comb_reg _ _ _) ⟨fun s h=>(by cases h),List.Pairwise.nil⟩ fun t ht=>?_
 simp only [List.mem_append,not_or,List.mem_singleton] at ht
 rw [comb_inB _ _ _ ht.1]
 have h1:=ht.2
 have e0:((0:Int):Rat)=0:=rfl
 have e1:((1:Int):Rat)=1:=rfl
 have e2:((2:Int):Rat)=2:=rfl
 unfold inB spU Sp.innB opB
 rw [e0,e1,e2]
 simp
 grind
theorem c_known6 {V:View}:Acts prog 17 #[] V fun r V'=>r=.bool true:=by
 have s0:Sz 10 ((0:Int):Rat):=sz_int (by decide) (by decide)
 have s1:Sz 10 ((1:Int):Rat):=sz_int (by decide) (by decide)
 have s2:Sz 10 ((2:Int):Rat):=sz_int (by decide) (by decide)
 have o01:Ok6 [spU 0 1] 2:=ok6_one (by decide) s0 s1
 have o12:Ok6 [spU 1 2] 2:=ok6_one (by decide) s1 s2
 have o02:Ok6 [spU 0 2] 2:=ok6_one (by decide) s0 s2
 refine vc_law06_known V _ fun V1 l1=>(c_unit 0 1 (by decide) (by decide) s0 s1).mono ?_
 rintro r V2 l2 ⟨p1,n1,c1,rfl,g1⟩
 refine ⟨_,_,_,rfl,fun V3 l3=>(c_unit 1 2 (by decide) (by decide) s1 s2).mono ?_⟩
 rintro r V4 l4 ⟨p2,n2,c2,rfl,g2⟩
 have L3:=l3.trans l4
 refine ⟨_,_,_,rfl,fun V5 l5=>(c_span_Union (g1.le (L3.trans l5) fun _ _ g=>RSp.le g (L3.trans l5)) (g2.le l5 fun _ _ g=>RSp.le g l5) o01 o12 (by decide)).mono ?_⟩
 rintro r V6 l6 ⟨p3,n3,c3,rfl,g3⟩
 refine ⟨_,_,_,_,rfl,fun V7 l7=>(c_unit 0 1 (by decide) (by decide) s0 s1).mono ?_⟩
 rintro r V8 l8 ⟨p4,n4,c4,rfl,g4⟩
 refine ⟨_,_,_,rfl,fun V9 l9=>(c_unit 1 2 (by decide) (by decide) s1 s2).mono ?_⟩
 rintro r V10 l10 ⟨p5,n5,c5,rfl,g5⟩
 have L9:=l9.trans l10
 refine ⟨_,_,_,rfl,fun V11 l11=>(c_span_Intersect (g4.le (L9.trans l11) fun _ _ g=>RSp.le g (L9.trans l11)) (g5.le l11 fun _ _ g=>RSp.le g l11) o01 o12 (by decide)).mono ?_⟩
 rintro r V12 l12 ⟨p6,n6,c6,rfl,g6⟩
 rw [uni_012] at g3
 rw [int_012] at g6
 have n60:n6=0:=g6.len
 subst n60
 refine ⟨_,_,_,_,rfl,.inl rfl,fun _=>⟨.inl rfl,fun _ V13 l13=>(c_unit 0 2 (by decide) (by decide) s0 s2).mono ?_,(fun h=>nomatch h)⟩,(fun h=>nomatch h)⟩
 rintro r V14 l14 ⟨p7,n7,c7,rfl,g7⟩
 have L7:=l7.trans (l8.trans (l9.trans (l10.trans (l11.trans (l12.trans (l13.trans l14))))))
 refine ⟨_,_,_,rfl,fun V15 l15=>(c_SameAll (g3.le (L7.trans l15) fun _ _ g=>RSp.le g (L7.trans l15)) (g7.le l15 fun _ _ g=>RSp.le g l15) (by decide) o02.sz).mono ?_⟩
 rintro r V16 l16 rfl
 exact ⟨_,rfl,fun _ V17 l17=>rfl,(fun h=>nomatch h)⟩
end Go.Proofs.Tryz
/- Law 06: SpanAlgebra (printed by mkalg.py). -/
namespace Go.Proofs.Tryz
open Go.Eng Go.Big
theorem up {V V':View} {p:OA} {n:Nat} {l:List Sp} (h:Lst 8 RSp V p n l) (e:V.Le V'):Lst 8 RSp V' p n l:=h.le e fun _ _ g=>RSp.le g e
end Go.Proofs.Tryz
/- Plain: the lengths of the union and of the intersection add up. -/
namespace Go.Proofs.Tryz
open Go.Eng Go.Big
def lenL:List Sp->Rat
 | []=>0
 | s :: r=>(s.hi - s.lo) + lenL r
theorem lenL_snoc {s:Sp}:∀{r:List Sp},lenL (r++[s])=lenL r + (s.hi - s.lo)
 | []=>by simp only [List.nil_append,lenL]; grind
 | x :: r=>by simp only [List.cons_append,lenL,lenL_snoc (r:=r)]; grind
def midQ (x y:Rat):Rat:=(x + y) / 2
theorem midQ_lt {x y:Rat} (h:x < y):x < midQ x y/\midQ x y < y:=by unfold midQ; constructor <;> grind
/-- The gaps between cuts whose middle is inside. -/
def gsum (f:Rat->Bool):List Rat->Rat
 | x :: y :: r=>(if f (midQ x y) then y - x else 0) + gsum f (y :: r)
 | _=>0
theorem asc_head {x:Rat} {r:List Rat} (h:asc (x :: r)) {e:Rat} (he:e ∈ x :: r):x<=e:=by
 rcases List.mem_cons.1 he with rfl | he
 ·grind
 ·have:=(List.pairwise_cons.1 h).1 e he; grind
theorem gsum_none {f:Rat->Bool}:∀{r:List Rat} {x:Rat},asc (x :: r)->(∀t,x < t->f t=false)->gsum f (x :: r)=0
 | [],_,_,_=>rfl
 | y :: r,x,h,hf=>by
  have hxy:x < y:=(List.pairwise_cons.1 h).1 y (by simp)
  have:=gsum_none (f:=f) (List.pairwise_cons.1 h).2 fun t ht=>hf t (by grind)
  rw [gsum,this,hf _ (midQ_lt hxy).1]; simp [Rat.add_zero]
theorem gsum_lo {lo hi:Rat}:∀{r:List Rat} {x:Rat},asc (x :: r)->hi ∈ x :: r->lo<=x->gsum (fun t=>decide (lo < t) && decide (t < hi)) (x :: r)=hi - x
 | [],x,_,hh,_=>by
  obtain rfl:=List.mem_singleton.1 hh
  show (0:Rat)=_; grind
 | y :: r,x,h,hh,hl=>by
  have hxy:x < y:=(List.pairwise_cons.1 h).1 y (by simp)
  have h2:=(List.pairwise_cons.1 h).2
  rcases List.mem_cons.1 hh with rfl | hh
  ·rw [gsum_none h fun t ht=>by simp; grind]; grind
  ·have:=gsum_lo (lo:=lo) h2 hh (by grind)
   have hy:=asc_head h2 hh
   obtain ⟨m1,m2⟩:=midQ_lt hxy
   rw [gsum,this,if_pos (by simp; grind)]; grind
theorem gsum_span {lo hi:Rat} (hlt:lo < hi):∀{c:List Rat},asc c->lo ∈ c->hi ∈ c->gsum (fun t=>decide (lo < t) && decide (t < hi)) c=hi - lo
 | [],_,h,_=>by cases h
 | [x],_,h,h'=>by
  obtain rfl:=List.mem_singleton.1 h
  obtain rfl:=List.mem_singleton.1 h'
  grind
 | x :: y :: r,h,hl,hh=>by
  by_cases e:lo=x
  ·subst e; exact gsum_lo h hh (by grind)
  ·have hxy:x < y:=(List.pairwise_cons.1 h).1 y (by simp)
   have h2:=(List.pairwise_cons.1 h).2
   have hl2:lo ∈ y :: r:=by
    rcases List.mem_cons.1 hl with e' | hl
    ·exact absurd e' e
    ·exact hl
   have hy:=asc_head h2 hl2
   have hh2:hi ∈ y :: r:=by
    rcases List.mem_cons.1 hh with e' | hh
    ·grind
    ·exact hh
   obtain ⟨m1,m2⟩:=midQ_lt hxy
   rw [gsum,gsum_span hlt h2 hl2 hh2,if_neg (by simp; grind)]; grind
theorem gsum_add {f g:Rat->Bool}:∀{c:List Rat},gsum f c + gsum g c=gsum (fun t=>f t || g t) c + gsum (fun t=>f t && g t) c
 | []=>rfl
 | [_]=>rfl
 | x :: y :: r=>by
  have:=gsum_add (f:=f) (g:=g) (c:=y :: r)
  simp only [gsum]
  rcases Bool.eq_false_or_eq_true (f (midQ x y)) with hf | hf <;> rcases Bool.eq_false_or_eq_true (g (midQ x y)) with hg | hg <;> simp only [hf,hg,Bool.or_true,Bool.or_false,Bool.and_true,Bool.and_false,Bool.false_eq_true,if_true,if_false] <;> grind
theorem gsum_false:∀{c:List Rat},gsum (fun _=>false) c=0
 | []=>rfl
 | [_]=>rfl
 | x :: y :: r=>by rw [gsum,gsum_false (c:=y :: r)]; simp [Rat.add_zero]
theorem gsum_congr' {f g:Rat->Bool} {E:List Rat} (h:∀t,t ∉ E->f t=g t):∀{r:List Rat} {x:Rat},asc (x :: r)->(∀e ∈ E,e<=x \/ e ∈ r)->gsum f (x :: r)=gsum g (x :: r)
 | [],_,_,_=>rfl
 | y :: r,x,ha,hE=>by
  have hxy:x < y:=(List.pairwise_cons.1 ha).1 y (by simp)
  have h2:=(List.pairwise_cons.1 ha).2
  obtain ⟨m1,m2⟩:=midQ_lt hxy
  have hm:midQ x y ∉ E:=fun he=>by
   rcases hE _ he with h' | h'
   ·grind
   ·have:=asc_head h2 h'; grind
  rw [gsum,gsum,h _ hm,gsum_congr' h h2 fun e he=>?_]
  rcases hE e he with h' | h'
  ·exact .inl (by grind)
  ·rcases List.mem_cons.1 h' with rfl | h'
   ·exact .inl (by grind)
   ·exact .inr h'
theorem gsum_congr {f g:Rat->Bool} {c:List Rat} (ha:asc c) (h:∀t,t ∉ c->f t=g t):gsum f c=gsum g c:=by
 cases c with
 | nil=>rfl
 | cons x r=>
  refine gsum_congr' h ha fun e he=>?_
  rcases List.mem_cons.1 he with rfl | he
  ·exact .inl (by grind)
  ·exact .inr he
def bdd (C:List Sp):Prop:=∀s ∈ C,s.a=false/\s.b=false
theorem len_gsum {c:List Rat} (ha:asc c):∀{C:List Sp},reg C->bdd C->(∀s ∈ C,s.lo ∈ c/\s.hi ∈ c)->lenL C=gsum (inB C) c
 | [],_,_,_=>by rw [show inB []=fun _=>false from rfl,gsum_false]; rfl
 | s :: r,hr,hb,hc=>by
  obtain ⟨b1,b2⟩:=hb s (by simp)
  obtain ⟨c1,c2⟩:=hc s (by simp)
  have hlt:s.lo < s.hi:=lo_hi (hr.1 s (by simp)).2 b1 b2
  have ih:=len_gsum ha hr.tail (fun x hx=>hb x (by simp [hx])) fun x hx=>hc x (by simp [hx])
  have e1:s.innB=fun t=>decide (s.lo < t) && decide (t < s.hi):=by funext t; simp [Sp.innB,b1,b2]
  have e2:(fun t=>s.innB t && inB r t)=fun _=>false:=by
   funext t
   refine Bool.eq_false_iff.2 fun h=>?_
   rw [Bool.and_eq_true] at h
   obtain ⟨h1,h2⟩:=h
   obtain ⟨z,hz,h2⟩:=List.any_eq_true.1 h2
   obtain ⟨d1,d2,d3⟩:=hr.bef hz
   simp [Sp.innB,b1,b2] at h1
   simp [Sp.innB,d2] at h2
   grind
  have h:=gsum_add (f:=s.innB) (g:=inB r) (c:=c)
  rw [e2,gsum_false,e1,gsum_span hlt ha c1 c2] at h
  rw [show inB (s :: r)=fun t=>s.innB t || inB r t from rfl,e1]
  rw [lenL,ih]
  grind
theorem below (m:Rat):∀E:List Rat,∃t,t < m/\∀e ∈ E,t < e
 | []=>⟨m - 1,by grind,fun e h=>by cases h⟩
 | e :: r=>by
  obtain ⟨t,h1,h2⟩:=below m r
  by_cases h:t < e
  ·exact ⟨t,h1,fun x hx=>by rcases List.mem_cons.1 hx with rfl | hx; exact h; exact h2 x hx⟩
  ·exact ⟨e - 1,by grind,fun x hx=>by
    rcases List.mem_cons.1 hx with rfl | hx
    ·grind
    ·have:=h2 x hx; grind⟩
theorem above (m:Rat):∀E:List Rat,∃t,m < t/\∀e ∈ E,e < t
 | []=>⟨m + 1,by grind,fun e h=>by cases h⟩
 | e :: r=>by
  obtain ⟨t,h1,h2⟩:=above m r
  by_cases h:e < t
  ·exact ⟨t,h1,fun x hx=>by rcases List.mem_cons.1 hx with rfl | hx; exact h; exact h2 x hx⟩
  ·exact ⟨e + 1,by grind,fun x hx=>by
    rcases List.mem_cons.1 hx with rfl | hx
    ·grind
    ·have:=h2 x hx; grind⟩
theorem comb_bdd {op:Int} {A B:List Sp} (m M:Rat) (hlo:∀t,t < m->opB op (inB A t) (inB B t)=false) (hhi:∀t,M < t->opB op (inB A t) (inB B t)=false):bdd (combL op A B):=by
 intro s hs
 constructor
 ·refine Bool.eq_false_iff.2 fun ha=>?_
  obtain ⟨t,h1,h2⟩:=below m (s.hi :: endsL (A++B))
  have hn:t ∉ endsL (A++B):=fun h=>by have:=h2 t (by simp [h]); grind
  have:=comb_inB op A B hn
  rw [hlo t h1] at this
  have hi:t < s.hi:=h2 _ (by simp)
  have:inB (combL op A B) t=true:=List.any_eq_true.2 ⟨s,hs,by simp [Sp.innB,ha,hi]⟩
  simp_all
 ·refine Bool.eq_false_iff.2 fun hb=>?_
  obtain ⟨t,h1,h2⟩:=above M (s.lo :: endsL (A++B))
  have hn:t ∉ endsL (A++B):=fun h=>by have:=h2 t (by simp [h]); grind
  have:=comb_inB op A B hn
  rw [hhi t h1] at this
  have hi:s.lo < t:=h2 _ (by simp)
  have:inB (combL op A B) t=true:=List.any_eq_true.2 ⟨s,hs,by simp [Sp.innB,hb,hi]⟩
  simp_all
theorem bdd_lo:∀{C:List Sp},bdd C->∃m,∀t,t < m->inB C t=false
 | [],_=>⟨0,fun _ _=>rfl⟩
 | s :: r,h=>by
  obtain ⟨m,hm⟩:=bdd_lo (C:=r) fun x hx=>h x (by simp [hx])
  obtain ⟨k,k1,k2⟩:=below m [s.lo]
  have:=k2 s.lo (by simp)
  refine ⟨k,fun t ht=>?_⟩
  rw [show inB (s :: r) t=(s.innB t || inB r t) from rfl,hm t (by grind)]
  simp [Sp.innB,(h s (by simp)).1]; intro h'; grind
theorem bdd_hi:∀{C:List Sp},bdd C->∃m,∀t,m < t->inB C t=false
 | [],_=>⟨0,fun _ _=>rfl⟩
 | s :: r,h=>by
  obtain ⟨m,hm⟩:=bdd_hi (C:=r) fun x hx=>h x (by simp [hx])
  obtain ⟨k,k1,k2⟩:=above m [s.hi]
  have:=k2 s.hi (by simp)
  refine ⟨k,fun t ht=>?_⟩
  rw [show inB (s :: r) t=(s.innB t || inB r t) from rfl,hm t (by grind)]
  simp [Sp.innB,(h s (by simp)).2]; intro h'; grind
/-- Sets that lie in a bounded one are bounded. -/
theorem int_bdd {A B:List Sp} (hB:bdd B):bdd (combL 2 A B):=by
 obtain ⟨m,hm⟩:=bdd_lo hB
 obtain ⟨M,hM⟩:=bdd_hi hB
 exact comb_bdd m M (fun t ht=>by rw [hm t ht]; simp [opB]) fun t ht=>by rw [hM t ht]; simp [opB]
theorem uni_bdd {A B:List Sp} (hA:bdd A) (hB:bdd B):bdd (combL 1 A B):=by
 obtain ⟨m,hm⟩:=bdd_lo hB
 obtain ⟨M,hM⟩:=bdd_hi hB
 obtain ⟨m',hm'⟩:=bdd_lo hA
 obtain ⟨M',hM'⟩:=bdd_hi hA
 obtain ⟨k,k1,k2⟩:=below m [m']
 obtain ⟨K,K1,K2⟩:=above M [M']
 have k2:=k2 m' (by simp)
 have K2:=K2 M' (by simp)
 exact comb_bdd k K (fun t ht=>by rw [hm t (by grind),hm' t (by grind)]; simp [opB]) fun t ht=>by rw [hM t (by grind),hM' t (by grind)]; simp [opB]
theorem len_add {A B:List Sp} (rA:reg A) (rB:reg B) (hA:bdd A) (hB:bdd B):lenL A + lenL B=lenL (combL 1 A B) + lenL (combL 2 A B):=by
 have ac:=ends_asc (A++B)
 have iA:∀s ∈ A,s.lo ∈ endsL (A++B)/\s.hi ∈ endsL (A++B):=fun s hs=>⟨ends_iff.2 ⟨s,List.mem_append_left _ hs,.inl ⟨(hA s hs).1,rfl⟩⟩,ends_iff.2 ⟨s,List.mem_append_left _ hs,.inr ⟨(hA s hs).2,rfl⟩⟩⟩
 have iB:∀s ∈ B,s.lo ∈ endsL (A++B)/\s.hi ∈ endsL (A++B):=fun s hs=>⟨ends_iff.2 ⟨s,List.mem_append_right _ hs,.inl ⟨(hB s hs).1,rfl⟩⟩,ends_iff.2 ⟨s,List.mem_append_right _ hs,.inr ⟨(hB s hs).2,rfl⟩⟩⟩
 have iC:∀op,bdd (combL op A B)->∀s ∈ combL op A B,s.lo ∈ endsL (A++B)/\s.hi ∈ endsL (A++B):=fun op h s hs=>⟨(comb_ends s hs).1 (h s hs).1,(comb_ends s hs).2 (h s hs).2⟩
 rw [len_gsum ac rA hA iA,len_gsum ac rB hB iB,len_gsum ac (comb_reg 1 A B) (uni_bdd hA hB) (iC 1 (uni_bdd hA hB)),len_gsum ac (comb_reg 2 A B) (int_bdd hB) (iC 2 (int_bdd hB)),gsum_add]
 rw [gsum_congr ac (f:=inB (combL 1 A B)) (g:=fun t=>inB A t || inB B t) fun t ht=>by rw [comb_inB 1 A B ht]; simp [opB],gsum_congr ac (f:=inB (combL 2 A B)) (g:=fun t=>inB A t && inB B t) fun t ht=>by rw [comb_inB 2 A B ht]; simp [opB]]
end Go.Proofs.Tryz
/- By program: the conditions of the functions, from their loaded code. -/
namespace Go.Proofs.Tryz
open Go.Eng
open Go.Value renaming int→I,pointer→P,slice→S,agg→A,bool→B,tuple→T
open Go.IntKind renaming i64→J,u64→U,u32→W
set_option maxRecDepth 100000
theorem vc_span_Length (r:OA) (s t:Nat) (V:View) (R:VR) (h:(Ca V 63 #[S r s t] fun c5 l=>∃g e m,∃n,c5=T #[S g e m,B n]/\(((!n)=true->(∃u,(∃w,(some ⟨1,0,none⟩:OA)=some w/\l.at w (u))/\(Rt l R (T #[A #[B false,S none 0 0,S none 0 0],u]))))/\((!n)=false->(∃(o:(Int × Int × Int × (OA))->VP) (y:(Int × Int × Int × (OA))->Nat),(∃i,(s6 0 0 g e m (e:Int) (((0:Int)=i.1)/\s6 (none:OA) 0 0 (none:OA) 0 0 (((0:Int)=i.2.1)/\((0:Int)=i.2.2.1)/\((none:OA)=i.2.2.2))))/\o i l)/\∀(b:Int × Int × Int × (OA)) (a:View),l.Le a->o b a->(true=true/\(((decide (b.1 < (e:Int)))=true->(g.isSome=true)/\(0<=b.1/\b.1 < (e:Int))/\(∃z,∃a0,∃a1,∃a2,∃a3,∃a4,∃p,∃q,∃d,addrAdd g (b.1.toNat * 8)=some d/\a.at (d.add 0) (I J z)/\a.at (d.add 1) (I J a0)/\a.at (d.add 2) (P a1)/\a.at (d.add 3) (I J a2)/\a.at (d.add 4) (I J a3)/\a.at (d.add 5) (P a4)/\a.at (d.add 6) (B p)/\a.at (d.add 7) (B q)/\((p=true->(∃a5,(∃a6,(some ⟨0,0,none⟩:OA)=some a6/\a.at a6 (a5))/\(Rt a R (T #[A #[B false,S none 0 0,S none 0 0],a5]))))/\(p=false->((q=true->(∃a8,(∃a9,(some ⟨0,0,none⟩:OA)=some a9/\a.at a9 (a8))/\(Rt a R (T #[A #[B false,S none 0 0,S none 0 0],a8]))))/\(q=false->(Ca a 75 #[A #[I J a2,I J a3,P a4],A #[I J z,I J a0,P a1]] fun c6 c7=>∃b1,∃b2,∃b3,c6=A #[I J b1,I J b2,P b3]/\(Ca c7 74 #[A #[I J b.2.1,I J b.2.2.1,P b.2.2.2],A #[I J b1,I J b2,P b3]] fun c8 c9=>∃b4,∃b5,∃b6,c8=A #[I J b4,I J b5,P b6]/\(∃f:Int × Int × Int × (OA),y f < y b/\(s6 0 0 g e m (e:Int) (((J.wrap (b.1 + (1:Int)))=f.1)/\s6 (none:OA) 0 0 (none:OA) 0 0 ((b4=f.2.1)/\(b5=f.2.2.1)/\((b6:OA)=f.2.2.2))))/\o f c9)))))))))/\((decide (b.1 < (e:Int)))=false->(Ca a 76 #[A #[I J b.2.1,I J b.2.2.1,P b.2.2.2]] fun d0 d1=>∃b7,∃b8 b9 c0,∃c1 c2 c3,d0=A #[B b7,S b8 b9 c0,S c1 c2 c3]/\(Rt d1 R (T #[A #[B b7,S b8 b9 c0,S c1 c2 c3],.nilIface]))))))))))):
 Acts prog 21 #[S r s t] V R:=
 fd (LF:=LF0) (RF:=[1000010]) [(6,⟨Int × Int × Int × (OA),false,[2,6,18,19],[2],fun k=>[(20,.c (.v (I J k.1)))],fun k=>[(6,⟨.lit [.v (I J k.2.1),.v (I J k.2.2.1),.v (P k.2.2.2)],129⟩)]⟩)] [] func21 h
theorem vc_law06_SpanAdds (a0:OA) (a1 a2:Nat) (V:View) (R:VR) (h:(∀u,V.Le u->Acts prog 10 #[S a0 a1 a2] u fun o7 a3=>∃d:Nat,∃a4 a5 a6,∃a7,o7=P (some ⟨d,0,none⟩)/\u.w.heap.size<=d/\a3.blk d (.cells #[S a4 a5 a6,I J a7] 107 (0,0))/\(∀a8:View,(a3.hide d).Le a8->Acts prog 19 #[I J (-50)] a8 fun o8 o9=>∃a9,∃b0 b1 b2,∃b3 b4 b5,o8=A #[B a9,S b0 b1 b2,S b3 b4 b5]/\(Ca o9 19 #[I J 50] fun p0 p1=>∃b6,∃b7 b8 b9,∃c0 c1 c2,p0=A #[B b6,S b7 b8 b9,S c0 c1 c2]/\(∀e,p1.Le e->∀b:Nat,(e.w.heap[b]?=some (.cells #[S a4 a5 a6,I J a7] 107 (0,0)))->(e.H b)->Acts prog 12 #[P (some ⟨b,0,none⟩)] (e.lend [b]) fun p2 c3=>∃c4 c5 c6,p2=S c4 c5 c6/\∃c7 c8 c9,∃d0,c3.w.heap[b]?=some (.cells #[S c7 c8 c9,I J d0] 107 (0,0))/\(∀x,c3.shut.Le x->∀y:Nat,(x.blk y (.cells #[B a9,S b0 b1 b2,S b3 b4 b5,B b6,S b7 b8 b9,S c0 c1 c2,B false,B false] 45 (0,0)))->Acts prog 20 #[I J 2,S c4 c5 c6,S (some ⟨y,0,none⟩) 1 1] x fun p3 p4=>∃d1 d2 d3,p3=S d1 d2 d3/\∀u3:C->Value,(Ca p4 11 #[S d1 d2 d3] fun p5 p6=>∃f g i,p5=S f g i/\(∀k,p6.Le k->∀c:Nat,(k.w.heap[c]?=some (.cells #[S c7 c8 c9,I J d0] 107 (0,0)))->(k.H c)->Acts prog 12 #[P (some ⟨c,0,none⟩)] (k.lend [c]) fun p7 d4=>∃d5 d6 d7,p7=S d5 d6 d7/\∃p8 p9 q0,∃q1,d4.w.heap[c]?=some (.cells #[S p8 p9 q0,I J q1] 107 (0,0))/\(∀d8,d4.shut.Le d8->Acts prog 20 #[I J 2,S d5 d6 d7,S (some ⟨y,0,none⟩) 1 1] d8 fun q2 q3=>∃d9 e0 e1,q2=S d9 e0 e1/\(Ca q3 11 #[S d9 e0 e1] fun q4 q5=>∃l m n,q4=S l m n/\(Ca q5 13 #[S f g i,S l m n] fun q6 q7=>∃e2 e3 e4,∃o,q6=T #[S e2 e3 e4,o]/\(Ca q7 14 #[S f g i,S l m n] fun q8 q9=>∃e5 e6 e7,∃p,q8=T #[S e5 e6 e7,p]/\(Ca q9 21 #[S f g i] fun r0 r1=>∃e8,∃e9 f0 f1,∃f2 f3 f4,∃q,r0=T #[A #[B e8,S e9 f0 f1,S f2 f3 f4],q]/\(Ca r1 21 #[S l m n] fun r2 r3=>∃f5,∃f6 f7 f8,∃f9 g0 g1,∃r,r2=T #[A #[B f5,S f6 f7 f8,S f9 g0 g1],r]/\(Ca r3 21 #[S e2 e3 e4] fun r4 r5=>∃g2,∃g3 g4 g5,∃g6 g7 g8,∃s,r4=T #[A #[B g2,S g3 g4 g5,S g6 g7 g8],s]/\(Ca r5 21 #[S e5 e6 e7] fun r6 r7=>∃g9,∃i0 i1 i2,∃i3 i4 i5,∃t,r6=T #[A #[B g9,S i0 i1 i2,S i3 i4 i5],t]/\(Ca r7 17 #[] fun r8 a=>∃z,r8=B z/\((z=true->(IsIface o)/\(((isNilI o)=true->(IsIface p)/\(((isNilI p)=true->(IsIface q)/\(((isNilI q)=true->(IsIface r)/\(((isNilI r)=true->(IsIface s)/\(((isNilI s)=true->(IsIface t)/\(((isNilI t)=true->(Ca a 24 #[A #[B e8,S e9 f0 f1,S f2 f3 f4]] fun r9 t0=>∃i6,∃i7 i8 i9,∃k0 k1 k2,r9=A #[B i6,S i7 i8 i9,S k0 k1 k2]/\(Ca t0 24 #[A #[B f5,S f6 f7 f8,S f9 g0 g1]] fun t1 t2=>∃k3,∃k4 k5 k6,∃k7 k8 k9,t1=A #[B k3,S k4 k5 k6,S k7 k8 k9]/\(Ca t2 23 #[A #[B i6,S i7 i8 i9,S k0 k1 k2],A #[B k3,S k4 k5 k6,S k7 k8 k9]] fun t3 t4=>∃l0,∃l1 l2 l3,∃l4 l5 l6,t3=A #[B l0,S l1 l2 l3,S l4 l5 l6]/\(Ca t4 24 #[A #[B g2,S g3 g4 g5,S g6 g7 g8]] fun t5 t6=>∃l7,∃l8 l9 m0,∃m1 m2 m3,t5=A #[B l7,S l8 l9 m0,S m1 m2 m3]/\(Ca t6 24 #[A #[B g9,S i0 i1 i2,S i3 i4 i5]] fun t7 t8=>∃m4,∃m5 m6 m7,∃m8 m9 n0,t7=A #[B m4,S m5 m6 m7,S m8 m9 n0]/\(Ca t8 23 #[A #[B l7,S l8 l9 m0,S m1 m2 m3],A #[B m4,S m5 m6 m7,S m8 m9 n0]] fun t9 u0=>∃n1,∃n2 n3 n4,∃n5 n6 n7,t9=A #[B n1,S n2 n3 n4,S n5 n6 n7]/\(Ca u0 22 #[A #[B l0,S l1 l2 l3,S l4 l5 l6],A #[B n1,S n2 n3 n4,S n5 n6 n7]] fun u1 u2=>∃n8,u1=I J n8/\(Rt u2 R (B (n8 == (0:Int))))))))))))/\((isNilI t)=false->(Rt a R (B false)))))/\((isNilI s)=false->(Rt a R (B false)))))/\((isNilI r)=false->(Rt a R (B false)))))/\((isNilI q)=false->(Rt a R (B false)))))/\((isNilI p)=false->(Rt a R (B false)))))/\((isNilI o)=false->(Rt a R (B false)))))/\(z=false->(Rt a R (B false))))))))))))))))))))):
 Acts prog 4 #[S a0 a1 a2] V R:=
 fd (LF:=LF0) (RF:=[1000010]) [] [] func4 h
end Go.Proofs.Tryz
/- Contracts: span.Length of bounded sets; reading a number of package api. -/
namespace Go.Proofs.Tryz
open Go.Eng Go.Big
theorem lenL_sz:∀{l:List Sp} {k:Nat},(∀s ∈ l,s.sz k)->Sz (l.length * (2 * k + 2) + 1) (lenL l)
 | [],k,_=>by
  refine (szz 1 (by decide)).mono ?_
  rw [List.length_nil,Nat.zero_mul]; exact Nat.le_refl _
 | s :: r,k,h=>by
  have ih:=lenL_sz (l:=r) (k:=k) fun x hx=>h x (by simp [hx])
  have hs:=h s (by simp)
  refine ((hs.2.sub hs.1).add ih).mono ?_
  have e:(s :: r).length * (2 * k + 2)=r.length * (2 * k + 2) + (2 * k + 2):=by rw [List.length_cons,Nat.succ_mul]
  rw [e]
  generalize r.length * (2 * k + 2)=z
  omega
theorem c_span_Length {V:View} {p:OA} {n c:Nat} {A:List Sp} {x:Nat} (hA:Lst 8 RSp V p n A) (oA:Ok6 A x) (h:x < 50) (hb:bdd A) :
  Acts prog 21 #[.slice p n c] V fun r V'=>∃w,r=.tuple #[w,.nilIface]/\RA V' w (lenL A):=by
 have hn:=oA.len
 have hz:∀j,Sz 1100000 (lenL (A.take j)):=fun j=>(lenL_sz (k:=10000) fun s hs=>oA.sz s (List.mem_of_mem_take hs)).mono (by rw [List.length_take]; have:=Nat.min_le_right j A.length; omega)
 refine vc_span_Length p n c V _ fun V1 l1=>(c_SetOf (hA.le l1 fun _ _ g=>RSp.le g l1) oA (by omega)).mono ?_
 rintro r V2 l2 ⟨q,k,e,rfl,g⟩
 obtain rfl:=g.len
 refine ⟨_,_,_,_,rfl,(fun h=>nomatch h),fun _=>⟨fun z V'=>∃j:Nat,z.1=(j:Int)/\j<=A.length/\RR V' (.agg #[.int .i64 z.2.1,.int .i64 z.2.2.1,.pointer z.2.2.2]) (lenL (A.take j)),fun z=>A.length - z.1.toNat,⟨(0,0,0,none),by and_intros <;> rfl,0,rfl,Nat.zero_le _,RR.zero _⟩,?_⟩⟩
 rintro ⟨z,a1,a2,a3⟩ V4 l4 ⟨j,ez,jle,hs⟩
 dsimp only at ez hs
 subst ez
 have g4:=g.le l4 fun _ _ g=>RIv.le g l4
 dsimp only
 refine ⟨rfl,fun hlt=>?_,fun hlt V11 l11=>(c_R_API (hs.le l11) (hz j) (by decide)).mono ?_⟩
 ·have hlt:(j:Int) < A.length:=of_decide_eq_true hlt
  have hi:j < A.length:=by omega
  obtain ⟨ad,ha,xs,-,hv,hat⟩:=g4.at_ j hi
  obtain ⟨x1,x2,q1,y1,y2,q2,ex,r1,r2⟩:=hv
  have ex:=congrArg Array.toList (Value.agg.inj ex)
  dsimp only at ex
  subst ex
  obtain ⟨b1,b2⟩:=hb _ (List.getElem_mem hi)
  have ss:=oA.sz _ (List.getElem_mem hi)
  have w:i64.wrap ((j:Int) + 1)=((j + 1:Nat):Int):=by rw [i64w (by omega)]; rfl
  rw [Int.toNat_natCast,w]
  refine ⟨isSome_addr ha,⟨by omega,by omega⟩,_,_,_,_,_,_,_,_,ad,ha,hat 0 _ rfl,hat 1 _ rfl,hat 2 _ rfl,hat 3 _ rfl,hat 4 _ rfl,hat 5 _ rfl,hat 6 _ rfl,hat 7 _ rfl,fun h=>(by rw [b1] at h; cases h),fun _=>⟨fun h=>(by rw [b2] at h; cases h),fun _ V7 l7=>(c_R_Sub (r2.le l7) (r1.le l7) ss.2 ss.1 (by decide)).mono ?_⟩⟩
  rintro r V8 l8 f
  have f0:=f
  obtain ⟨u1,u2,u3,rfl⟩:=f.shape
  refine ⟨_,_,_,rfl,fun V9 l9=>(c_R_Add (hs.le (l7.trans (l8.trans l9))) (f0.le l9) (hz j) (ss.2.sub ss.1) (by decide)).mono ?_⟩
  rintro r V10 l10 d
  have d0:=d
  obtain ⟨t1,t2,t3,rfl⟩:=d.shape
  refine ⟨_,_,_,rfl,(((j + 1:Nat):Int),_,_,_),by dsimp only; omega,by and_intros <;> rfl,j + 1,rfl,hi,?_⟩
  rw [List.take_add_one,List.getElem?_eq_getElem hi]
  rw [show (some A[j]).toList=[A[j]] from rfl,lenL_snoc]
  exact d0
 ·have hlt:¬ (j:Int) < A.length:=of_decide_eq_false hlt
  obtain rfl:j=A.length:=by omega
  rw [List.take_length]
  rintro r V12 l12 d
  have d0:=d
  obtain ⟨_,_,_,_,_,_,_,rfl⟩:=d.shape
  exact ⟨_,_,_,_,_,_,_,rfl,fun V13 l13=>⟨_,rfl,d0.le l13⟩⟩
theorem c_Q_ok {V:View} {v:Value} {q:Rat} (h:RA V v q) {k:Nat} (hs:Sz k q) (hk:k<=274877906944):Acts prog 24 #[v] V fun r V'=>RQ V' r q:=by
 obtain ⟨b,xs,ys,hr,-,e,hl⟩:=RE.raw (no:=false) ⟨(fun h=>nomatch h),fun _=>h⟩ (fun h=>nomatch h)
 obtain ⟨m1,m2⟩:=hl k hs
 have e:rawQ b xs ys=q:=e
 rw [← e]
 exact c_ref01_Q hr (by omega) (by omega)
end Go.Proofs.Tryz
/- Law 06: SpanAdds (printed by mkadds.py). -/
namespace Go.Proofs.Tryz
open Go.Eng Go.Big
def bdS:Sp:=spU (-50) 50
theorem bd_sz:∀s ∈ [bdS],s.sz 40:=fun s h=>by
 rw [List.mem_singleton.1 h]
 exact ⟨sz_int (by decide) (by decide),sz_int (by decide) (by decide)⟩
theorem bd_ok:Ok6 [bdS] 2:=ok6_one (by decide) (sz_int (by decide) (by decide)) (sz_int (by decide) (by decide))
theorem bd_bdd:bdd [bdS]:=fun s h=>by rw [List.mem_singleton.1 h]; exact ⟨rfl,rfl⟩
theorem ok6_len {l:List Sp} {m:Nat} (h:Ok6 l m) (hm:m < 50):Sz 1100000 (lenL l):=(lenL_sz (k:=10000) h.sz).mono (by have:=h.len; omega)
set_option maxHeartbeats 1000000 in
theorem c_SpanAdds {V:View} {lp:OA} {ln lc:Nat} (hr:Rdl V lp ln) (hc:ln<=lc) :
  Acts prog 4 #[.slice lp ln lc] V fun r V'=>r=.bool true:=by
 refine vc_law06_SpanAdds lp ln lc V _ fun V1 l1=>(c_scene_New hc).mono ?_
 rintro r V2 l2 ⟨bk1,rfl,hfr,hb⟩
 refine ⟨bk1,_,_,_,_,rfl,hfr,hb,fun V3 l3=>(c_num_Of (-50) (by decide) (by decide)).mono ?_⟩
 have l13:V1.Le V3:=le_fresh l2 hfr l3
 have hmin:min ln 400<=400:=Nat.min_le_right _ _
 replace hr:Rdl V lp (min ln 400):=fun i hi=>hr i (Nat.lt_of_lt_of_le hi (Nat.min_le_left _ _))
 generalize min ln 400=n at *
 replace hr:=hr.le (l1.trans l13)
 clear l1 l2 l3 l13 hfr hb
 rintro r V4 l4 g1
 have g10:=g1
 obtain ⟨_,_,_,_,_,_,rfl⟩:=g1.shape
 refine ⟨_,_,_,_,_,_,_,rfl,fun V5 l5=>(c_num_Of 50 (by decide) (by decide)).mono ?_⟩
 rintro r V6 l6 g2
 have g20:=g2
 obtain ⟨_,_,_,_,_,_,rfl⟩:=g2.shape
 replace hr:=hr.le (l4.trans (l5.trans l6))
 refine ⟨_,_,_,_,_,_,_,rfl,fun V7 l7 bk10 e7 h7=>(c_made (V:=V7.lend [bk10]) (hr.le fun b o h=>l7 b o h) hmin e7 ⟨by simp,h7⟩ (Int.le_refl 0)).mono ?_⟩
 rintro r V8 l8 ⟨q0,m0,d0,A0,at0,rfl,gA,oA0,sA0,t0,hw0⟩
 refine ⟨_,_,_,rfl,_,_,_,_,hw0,fun V9 l9 bk14 hbk=>?_⟩
 have L9:View.Le V6 V9:=fun b o h=>l9 b o (l8 b o (l7 b o h))
 replace hr:=hr.le L9
 have gB:RSl V9 (some ⟨bk14,0,none⟩) 1 [bdS]:=lst_rsl (Lst.of_row (vs:=[.bool _,.slice _ _ _,.slice _ _ _,.bool _,.slice _ _ _,.slice _ _ _,.bool false,.bool false]) hbk (row_one rfl ⟨_,_,_,_,_,_,_,_,_,_,_,_,_,_,rfl,g10.le (l5.trans (l6.trans L9)),g20.le L9⟩))
 clear g1 g2 g10 g20 hbk e7 h7
 refine (c_ref06_Combine (V:=V9) (op:=2) (la':=A0) (lb':=[bdS]) (gA.le fun b o h=>l9 b o h) gB (by have:=oA0.len; rw [List.length_singleton]; omega) sA0 bd_sz (by decide)).mono ?_
 rintro r V10 l10 ⟨q1,m1,d1,rfl,gx⟩
 have oA:=oA0.comb bd_ok 2
 have sA:=comb_sz (op:=2) (by decide) sA0 bd_sz
 have bA:bdd (combL 2 A0 [bdS]):=int_bdd bd_bdd
 generalize combL 2 A0 [bdS]=A at oA sA bA gx
 refine ⟨_,_,_,rfl,fun _ V11 l11=>(c_ref06_WriteAll (gx.le l11).lst (Nat.le_trans oA.len (by decide)) sA (by decide)).mono ?_⟩
 rintro r V12 l12 ⟨pa,na,ca,rfl,ha⟩
 have L10:=l10.trans (l11.trans l12)
 replace hr:=hr.le L10
 replace gB:=gB.le L10
 refine ⟨_,_,_,rfl,fun V13 l13 bk18 e13 h13=>(c_made (V:=V13.lend [bk18]) (hr.le fun b o h=>l13 b o h) hmin e13 ⟨by simp,h13⟩ t0).mono ?_⟩
 rintro r V14 l14 ⟨q2,m2,d2,B0,at1,rfl,gB0,oB0,sB0,t1,hw1⟩
 have L13:View.Le V12 V14:=fun b o h=>l14 b o (l13 b o h)
 replace ha:=up ha L13
 replace gB:=gB.le L13
 refine ⟨_,_,_,rfl,_,_,_,_,hw1,fun V15 l15=>(c_ref06_Combine (V:=V15) (op:=2) (la':=B0) (lb':=[bdS]) (gB0.le fun b o h=>l15 b o h) (gB.le fun b o h=>l15 b o h) (by have:=oB0.len; rw [List.length_singleton]; omega) sB0 bd_sz (by decide)).mono ?_⟩
 rintro r V16 l16 ⟨q3,m3,d3,rfl,gy⟩
 have oB:=oB0.comb bd_ok 2
 have sB:=comb_sz (op:=2) (by decide) sB0 bd_sz
 have bB:bdd (combL 2 B0 [bdS]):=int_bdd bd_bdd
 generalize combL 2 B0 [bdS]=B at oB sB bB gy
 refine ⟨_,_,_,rfl,fun V17 l17=>(c_ref06_WriteAll (gy.le l17).lst (Nat.le_trans oB.len (by decide)) sB (by decide)).mono ?_⟩
 rintro r V18 l18 ⟨pb,nb,cb,rfl,hb⟩
 replace ha:=up ha (V':=V18) fun b o h=>l18 b o (l17 b o (l16 b o (l15 b o h)))
 refine ⟨_,_,_,rfl,fun V19 l19=>(c_span_Union (up ha l19) (up hb l19) oA oB (by decide)).mono ?_⟩
 rintro r V20 l20 ⟨pu,nu,cu,rfl,hu⟩
 have L19:=l19.trans l20
 replace ha:=up ha L19
 replace hb:=up hb L19
 have ou:=oA.comb oB 1
 refine ⟨_,_,_,_,rfl,fun V21 l21=>(c_span_Intersect (up ha l21) (up hb l21) oA oB (by decide)).mono ?_⟩
 rintro r V22 l22 ⟨pi,ni,ci,rfl,hi⟩
 have L21:=l21.trans l22
 replace ha:=up ha L21
 replace hb:=up hb L21
 replace hu:=up hu L21
 have oi:=oA.comb oB 2
 have bu:=uni_bdd bA bB
 have bi:=int_bdd (A:=A) bB
 have law:=len_add oA.rg oB.rg bA bB
 refine ⟨_,_,_,_,rfl,fun V23 l23=>(c_span_Length (up ha l23) oA (by decide) bA).mono ?_⟩
 rintro r V24 l24 ⟨w,rfl,ga⟩
 have ga0:=ga
 obtain ⟨_,_,_,_,_,_,_,rfl⟩:=ga.shape
 clear ga
 have L23:=l23.trans l24
 replace hb:=up hb L23
 replace hu:=up hu L23
 replace hi:=up hi L23
 refine ⟨_,_,_,_,_,_,_,_,rfl,fun V25 l25=>(c_span_Length (up hb l25) oB (by decide) bB).mono ?_⟩
 rintro r V26 l26 ⟨w,rfl,gb⟩
 have gb0:=gb
 obtain ⟨_,_,_,_,_,_,_,rfl⟩:=gb.shape
 clear gb
 have L25:=l25.trans l26
 replace hu:=up hu L25
 replace hi:=up hi L25
 replace ga0:=ga0.le L25
 refine ⟨_,_,_,_,_,_,_,_,rfl,fun V27 l27=>(c_span_Length (up hu l27) ou (by decide) bu).mono ?_⟩
 rintro r V28 l28 ⟨w,rfl,gu⟩
 have gu0:=gu
 obtain ⟨_,_,_,_,_,_,_,rfl⟩:=gu.shape
 clear gu
 have L27:=l27.trans l28
 replace hi:=up hi L27
 replace ga0:=ga0.le L27
 replace gb0:=gb0.le L27
 refine ⟨_,_,_,_,_,_,_,_,rfl,fun V29 l29=>(c_span_Length (up hi l29) oi (by decide) bi).mono ?_⟩
 rintro r V30 l30 ⟨w,rfl,gi⟩
 have gi0:=gi
 obtain ⟨_,_,_,_,_,_,_,rfl⟩:=gi.shape
 clear gi
 have L29:=l29.trans l30
 replace ga0:=ga0.le L29
 replace gb0:=gb0.le L29
 replace gu0:=gu0.le L29
 refine ⟨_,_,_,_,_,_,_,_,rfl,fun V31 l31=>c_known6.mono ?_⟩
 rintro r V32 l32 rfl
 have L31:=l31.trans l32
 replace ga0:=ga0.le L31
 replace gb0:=gb0.le L31
 replace gu0:=gu0.le L31
 replace gi0:=gi0.le L31
 refine ⟨_,rfl,fun _=>⟨.inl rfl,fun _=>⟨.inl rfl,fun _=>⟨.inl rfl,fun _=>⟨.inl rfl,fun _=>⟨.inl rfl,fun _=>⟨.inl rfl,fun _ V33 l33=>(c_Q_ok (ga0.le l33) (ok6_len oA (by decide)) (by decide)).mono ?_,(fun h=>nomatch h)⟩,(fun h=>nomatch h)⟩,(fun h=>nomatch h)⟩,(fun h=>nomatch h)⟩,(fun h=>nomatch h)⟩,(fun h=>nomatch h)⟩,(fun h=>nomatch h)⟩
 rintro r V34 l34 qa
 have qa0:=qa
 obtain ⟨_,_,_,_,_,_,rfl⟩:=qa.shape
 have L33:=l33.trans l34
 refine ⟨_,_,_,_,_,_,_,rfl,fun V35 l35=>(c_Q_ok (gb0.le (L33.trans l35)) (ok6_len oB (by decide)) (by decide)).mono ?_⟩
 rintro r V36 l36 qb
 have qb0:=qb
 obtain ⟨_,_,_,_,_,_,rfl⟩:=qb.shape
 have L35:=l35.trans l36
 refine ⟨_,_,_,_,_,_,_,rfl,fun V37 l37=>(c_num_Plus (qa0.le (L35.trans l37)) (qb0.le l37) (ok6_len oA (by decide)) (ok6_len oB (by decide)) (by decide)).mono ?_⟩
 rintro r V38 l38 qs
 have qs0:=qs
 obtain ⟨_,_,_,_,_,_,rfl⟩:=qs.shape
 have L37:=l37.trans l38
 have M:=L33.trans (L35.trans L37)
 refine ⟨_,_,_,_,_,_,_,rfl,fun V39 l39=>(c_Q_ok (gu0.le (M.trans l39)) (ok6_len ou (by decide)) (by decide)).mono ?_⟩
 rintro r V40 l40 qc
 have qc0:=qc
 obtain ⟨_,_,_,_,_,_,rfl⟩:=qc.shape
 have L39:=l39.trans l40
 refine ⟨_,_,_,_,_,_,_,rfl,fun V41 l41=>(c_Q_ok (gi0.le (M.trans (L39.trans l41))) (ok6_len oi (by decide)) (by decide)).mono ?_⟩
 rintro r V42 l42 qd
 have qd0:=qd
 obtain ⟨_,_,_,_,_,_,rfl⟩:=qd.shape
 have L41:=l41.trans l42
 refine ⟨_,_,_,_,_,_,_,rfl,fun V43 l43=>(c_num_Plus (qc0.le (L41.trans l43)) (qd0.le l43) (ok6_len ou (by decide)) (ok6_len oi (by decide)) (by decide)).mono ?_⟩
 rintro r V44 l44 qt
 have qt0:=qt
 obtain ⟨_,_,_,_,_,_,rfl⟩:=qt.shape
 have L43:=l43.trans l44
 refine ⟨_,_,_,_,_,_,_,rfl,fun V45 l45=>(c_num_C (qs0.le (L39.trans (L41.trans (L43.trans l45)))) (qt0.le l45) ((ok6_len oA (by decide)).add (ok6_len oB (by decide))) ((ok6_len ou (by decide)).add (ok6_len oi (by decide))) (by decide)).mono ?_⟩
 rintro r V46 l46 rfl
 refine ⟨_,rfl,fun V47 l47=>?_⟩
 rw [cmpQ_eq.1 law]
 rfl
end Go.Proofs.Tryz
