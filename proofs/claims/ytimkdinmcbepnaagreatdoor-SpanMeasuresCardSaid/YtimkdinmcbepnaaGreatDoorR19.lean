/- A part of the proof (joined by program from: SpanB, NewA, SceneE, VLaw6, Law6A, Law6B, LenP, VLaw6E, SpanE, SentA, VLaw6F, SpanF, VLaw6C, SpanC, VLaw6D, SpanD, ErrA). -/
import Derived.Test.YtimkdinmcbepnaaGreatDoorR15
import Derived.Test.YtimkdinmcbepnaaGreatDoorR18
import Derived.Test.YtimkdinmcbepnaaGreatDoorR12
import Derived.Test.YtimkdinmcbepnaaGreatDoorR13
import Derived.Test.YtimkdinmcbepnaaGreatDoorR5
import Derived.Test.YtimkdinmcbepnaaGreatDoorR17
import Derived.WalkKit
import Derived.LaidEql
import Derived.Stop.Asserts
import Derived.RowKitTokens
set_option linter.unusedVariables false
open Go.IntKind (i64 u64 u32)
/- Contracts: sets of intervals: read, joined, cut, written; the functions of package span. -/
namespace Go.Proofs.Tryz
open Go.Eng Go.Big
/-- A regular set with few ends and small numbers. -/
structure Ok6 (l:List Sp) (m:Nat):Prop where
 rg:reg l
 sz:∀s ∈ l,s.sz 10000
 fe:fe l<=m
 len:l.length<=m + 1
theorem Ok6.comb {a b:List Sp} {m n:Nat} (ha:Ok6 a m) (hb:Ok6 b n) (op:Int):Ok6 (combL op a b) (m + n):=
 ⟨comb_reg _ _ _,comb_sz (by decide) ha.sz hb.sz,Nat.le_trans (comb_fe op a b) (Nat.add_le_add ha.fe hb.fe),Nat.le_trans (comb_len op a b) (by have:=ha.fe; have:=hb.fe; omega)⟩
theorem c_U1 (a b:Bool) (W:View):Acts prog 127 #[.bool a,.bool b] W fun r _=>r=.bool (opB 1 a b):=
 vc_geo_Set_Union_1 a b W _ ⟨fun h V l=>by subst h; simp [opB],fun h V l=>by subst h; simp [opB]⟩
theorem c_I1 (a b:Bool) (W:View):Acts prog 128 #[.bool a,.bool b] W fun r _=>r=.bool (opB 2 a b):=
 vc_geo_Set_Intersect_1 a b W _ ⟨fun h V l=>by subst h; simp [opB],fun h V l=>by subst h; simp [opB]⟩
/-- A function that joins two sets. -/
def Joins (f:Nat) (op:Int):Prop:=∀{V:View} {p:OA} {n c:Nat} {q:OA} {m d:Nat} {A B:List Sp} {x y:Nat},Lst 8 RIv V p n A->Lst 8 RIv V q m B->Ok6 A x->Ok6 B y->x + y < 50 ->
 Acts prog f #[.slice p n c,.slice q m d] V fun r V'=>∃q m e,r=.slice q m e/\Lst 8 RIv V' q m (combL op A B)
theorem sweep_of {V:View} {p:OA} {n c:Nat} {q:OA} {m d:Nat} {A B:List Sp} {x y fa:Nat} {op:Int} (hA:Lst 8 RIv V p n A) (hB:Lst 8 RIv V q m B) (oA:Ok6 A x) (oB:Ok6 B y) (h:x + y < 50) (hf:∀a b (W:View),Acts prog fa #[.bool a,.bool b] W fun r _=>r=.bool (opB op a b)) :
  Acts prog 126 #[.agg #[.slice p n c,.slice q m d],.func (.func fa) #[] #[]] V fun r V'=>∃q m e,r=.slice q m e/\Lst 8 RIv V' q m (combL op A B):=
 c_sweep hA hB oA.rg.1 oB.rg.1 oA.sz oB.sz (by have:=oA.len; omega) (by have:=oB.len; omega) (by have:=oA.fe; have:=oB.fe; omega) hf
theorem c_Set_Union:Joins 61 1:=by
 intro V p n c q m d A B x y hA hB oA oB h
 refine vc_geo_Set_Union p n c q m d V _ fun V1 l1=>(sweep_of (hA.le l1 fun _ _ g=>RIv.le g l1) (hB.le l1 fun _ _ g=>RIv.le g l1) oA oB h c_U1).mono ?_
 rintro r V2 l2 ⟨q,m,e,rfl,g⟩
 exact ⟨_,_,_,rfl,fun V3 l3=>⟨_,_,_,rfl,g.le l3 fun _ _ g=>RIv.le g l3⟩⟩
theorem c_Set_Intersect:Joins 62 2:=by
 intro V p n c q m d A B x y hA hB oA oB h
 refine vc_geo_Set_Intersect p n c q m d V _ fun V1 l1=>(sweep_of (hA.le l1 fun _ _ g=>RIv.le g l1) (hB.le l1 fun _ _ g=>RIv.le g l1) oA oB h c_I1).mono ?_
 rintro r V2 l2 ⟨q,m,e,rfl,g⟩
 exact ⟨_,_,_,rfl,fun V3 l3=>⟨_,_,_,rfl,g.le l3 fun _ _ g=>RIv.le g l3⟩⟩
theorem c_IvsOf {V:View} {p:OA} {n c:Nat} {ls:List Sp} (h:Lst 8 RSp V p n ls) (hn:ls.length<=1000) (hg:∀s ∈ ls,s.good) (hs:∀s ∈ ls,s.sz 10000) :
  Acts prog 88 #[.slice p n c] V fun r V'=>∃q m e,r=.tuple #[.slice q m e,.bool true]/\Lst 8 RIv V' q m ls:=by
 obtain rfl:=h.len
 refine vc_geo_IvsOf p _ c V _ ⟨fun h1=>absurd (of_decide_eq_true h1) (by omega),fun _=>⟨fun z V'=>∃j:Nat,z.2.2.2=(j:Int)/\j<=ls.length/\IR V' z.1 z.2.1 z.2.2.1 (ls.take j),
  fun z=>ls.length - z.2.2.2.toNat,⟨(0,0,[],0),by and_intros <;> rfl,0,rfl,Nat.zero_le _,IR.nil⟩,?_⟩⟩
 rintro ⟨z1,z2,vs,z4⟩ V1 l1 ⟨j,e4,jle,hir⟩
 dsimp only at e4 hir
 subst e4
 have zl:=hir.len
 rw [List.length_take] at zl
 refine ⟨rfl,fun hlt=>?_,fun hlt V4 l4 bk hb=>?_⟩
 ·have hlt:(j:Int) < ls.length:=of_decide_eq_true hlt
  have hi:j < ls.length:=by omega
  obtain ⟨ad,ha,xs,-,hf,hat⟩:=(h.le l1 fun _ _ g=>RSp.le g l1).at_ j hi
  have w:i64.wrap ((j:Int) + 1)=(j:Int) + 1:=i64w (by omega)
  dsimp only
  rw [Int.toNat_natCast,w]
  have hf0:=hf
  obtain ⟨_,_,_,_,_,_,_,_,_,_,_,_,_,_,ex⟩:=sp_shape hf
  have ex:=congrArg Array.toList (Value.agg.inj ex)
  dsimp only at ex
  subst ex
  have hgj:=hg _ (List.getElem_mem hi)
  refine ⟨isSome_addr ha,⟨by omega,by omega⟩,_,_,_,_,_,_,_,_,_,_,_,_,_,_,_,_,ad,ha,hat 0 _ rfl,hat 1 _ rfl,hat 2 _ rfl,hat 3 _ rfl,hat 4 _ rfl,hat 5 _ rfl,hat 6 _ rfl,hat 7 _ rfl,fun V2 l2=>(c_IvOf_ok (hf0.le l2) hgj.1 hgj.2 (hs _ (List.getElem_mem hi)) (by decide)).mono ?_⟩
  rintro r V3 l3 ⟨w,rfl,x1,x2,q,y1,y2,q',rfl,r1,r2⟩
  refine ⟨_,_,_,_,_,_,_,_,_,rfl,(fun h=>nomatch h),fun _=>⟨by omega,hir.le,hir.cap,rfl,one8,fun sp c' h1 h2=>⟨(z1 + 1,c',_,(j:Int) + 1),by dsimp only; omega,by and_intros <;> rfl,j + 1,rfl,hi,?_⟩⟩⟩
  dsimp only
  rw [List.take_add_one,List.getElem?_eq_getElem hi]
  exact (hir.mono (l2.trans l3)).snoc r1 r2 h1 h2
 ·have hlt:¬ (j:Int) < ls.length:=of_decide_eq_false hlt
  obtain rfl:j=ls.length:=by omega
  rw [List.take_length] at hir
  obtain rfl:=hir.len
  exact ⟨_,_,_,rfl,Lst.of_mrow hb (hir.row.le fun _ _ g=>RIv.le g l4) (by decide) hir.le⟩
theorem c_SetOf {V:View} {p:OA} {n c:Nat} {ls:List Sp} (h:Lst 8 RSp V p n ls) {m:Nat} (ho:Ok6 ls m) (hm:m < 100) :
  Acts prog 63 #[.slice p n c] V fun r V'=>∃q m e,r=.tuple #[.slice q m e,.bool true]/\Lst 8 RIv V' q m ls:=by
 have hn:=ho.len
 refine vc_geo_SetOf p n c V _ fun V1 l1=>(c_IvsOf (h.le l1 fun _ _ g=>RSp.le g l1) (by omega) ho.rg.1 ho.sz).mono ?_
 rintro r V2 l2 ⟨q,k,e,rfl,g⟩
 obtain rfl:=g.len
 refine ⟨_,_,_,_,rfl,(fun h=>nomatch h),fun _=>⟨fun z V'=>∃j:Nat,z=(j:Int)/\j<=ls.length,fun z=>ls.length - z.toNat,⟨0,by and_intros <;> rfl,0,rfl,Nat.zero_le _⟩,?_⟩⟩
 rintro z V4 l4 ⟨j,rfl,jle⟩
 refine ⟨rfl,fun hlt=>?_,fun hlt V10 l10=>⟨_,_,_,rfl,g.le (l4.trans l10) fun _ _ g=>RIv.le g (l4.trans l10)⟩⟩
 have hlt:(j:Int) < ls.length:=of_decide_eq_true hlt
 have hi:j < ls.length:=by omega
 have g4:=g.le l4 fun _ _ g=>RIv.le g l4
 obtain ⟨ad,ha,xs,-,⟨x1,x2,q1,y1,y2,q2,ex,r1,r2⟩,hat⟩:=g4.at_ j hi
 have ex:=congrArg Array.toList (Value.agg.inj ex)
 dsimp only at ex
 subst ex
 have w:i64.wrap ((j:Int) + 1)=((j + 1:Nat):Int):=by rw [i64w (by omega)]; rfl
 rw [Int.toNat_natCast,w]
 refine ⟨isSome_addr ha,⟨by omega,by omega⟩,_,_,_,_,_,_,_,_,ad,ha,hat 0 _ rfl,hat 1 _ rfl,hat 2 _ rfl,hat 3 _ rfl,hat 4 _ rfl,hat 5 _ rfl,hat 6 _ rfl,hat 7 _ rfl,fun h0=>?_,fun h0=>⟨((j + 1:Nat):Int),by dsimp only; omega,by and_intros <;> rfl,j + 1,rfl,hi⟩⟩
 have h0:(j:Int) > 0:=of_decide_eq_true h0
 obtain ⟨i,rfl⟩:∃i,j=i + 1:=⟨j - 1,by omega⟩
 have hi':i < ls.length:=by omega
 obtain ⟨b1,b2,b3⟩:=List.pairwise_iff_getElem.1 ho.rg.2 i (i + 1) hi' hi (by omega)
 have w2:i64.wrap (((i + 1:Nat):Int) - 1)=(i:Int):=by rw [i64w (by omega)]; omega
 rw [w2,Int.toNat_natCast]
 obtain ⟨ad',ha',xs,-,⟨u1,u2,p1,v1,v2,p2,ex,r1',r2'⟩,hat'⟩:=g4.at_ i hi'
 have ex:=congrArg Array.toList (Value.agg.inj ex)
 dsimp only at ex
 subst ex
 have hat7:=hat' 7 _ rfl
 have hat3:=hat' 3 _ rfl
 have hat4:=hat' 4 _ rfl
 have hat5:=hat' 5 _ rfl
 have A7:addrAdd (addrAdd q (i * 8)) 7=some (ad'.add 7):=by rw [ha']; rfl
 have A3:addrAdd (addrAdd q (i * 8)) 3=some (ad'.add 3):=by rw [ha']; rfl
 refine ⟨fun h=>(by rw [b2] at h; cases h),fun _=>⟨isSome_addr ha',⟨by omega,by omega⟩,by rw [ha']; rfl,_,⟨_,A7,hat7⟩,fun h=>(by rw [b1] at h; cases h),fun _=>⟨isSome_addr ha',⟨by omega,by omega⟩,by rw [ha']; rfl,v1,v2,p2,_,A3,by rw [adr_add2]; exact hat3,by rw [adr_add2]; exact hat4,by rw [adr_add2]; exact hat5,fun V7 l7=>(c_R_Cmp (r2'.le l7) (r1.le l7) (ho.sz _ (List.getElem_mem hi')).2 (ho.sz _ (List.getElem_mem hi)).1 (by decide)).mono ?_⟩⟩⟩
 rintro r V8 l8 rfl
 refine ⟨_,rfl,fun h=>?_,fun _=>⟨((i + 1 + 1:Nat):Int),by dsimp only; omega,by and_intros <;> rfl,i + 1 + 1,rfl,hi⟩⟩
 have h:=of_decide_eq_true h
 rcases cmpQ_or ls[i].hi ls[i + 1].lo with ⟨h1,e⟩ | ⟨h1,e⟩ | ⟨h1,e⟩ <;> rw [e] at h <;> grind
/-! package span -/
theorem c_span_two {V:View} {p:OA} {n c:Nat} {q:OA} {m d:Nat} {A B:List Sp} {x y fa:Nat} {op:Int} (hA:Lst 8 RSp V p n A) (hB:Lst 8 RSp V q m B) (oA:Ok6 A x) (oB:Ok6 B y) (h:x + y < 50) (hf:Joins fa op) :
  Acts prog 60 #[.slice p n c,.slice q m d,.func (.func fa) #[] #[]] V fun r V'=>∃q m e,r=.tuple #[.slice q m e,.nilIface]/\Lst 8 RSp V' q m (combL op A B):=by
 have oC:=oA.comb oB op
 refine vc_span_two p n c q m d fa V _ fun V1 l1=>(c_SetOf (hA.le l1 fun _ _ g=>RSp.le g l1) oA (by omega)).mono ?_
 rintro r V2 l2 ⟨p1,n1,d1,rfl,g1⟩
 refine ⟨_,_,_,_,rfl,fun V3 l3=>(c_SetOf (hB.le (l1.trans (l2.trans l3)) fun _ _ g=>RSp.le g (l1.trans (l2.trans l3))) oB (by omega)).mono ?_⟩
 rintro r V4 l4 ⟨p2,n2,d2,rfl,g2⟩
 refine ⟨_,_,_,_,rfl,(fun h=>nomatch h),fun _=>⟨(fun h=>nomatch h),fun _ V7 l7=>(hf (g1.le (l3.trans (l4.trans l7)) fun _ _ g=>RIv.le g (l3.trans (l4.trans l7))) (g2.le l7 fun _ _ g=>RIv.le g l7) oA oB h).mono ?_⟩⟩
 rintro r V8 l8 ⟨p3,n3,d3,rfl,g3⟩
 refine ⟨_,_,_,rfl,fun V9 l9=>(c_Set_API (g3.le l9 fun _ _ g=>RIv.le g l9) (by have:=oC.len; omega) oC.sz (by decide)).mono ?_⟩
 rintro r V10 l10 ⟨p4,n4,d4,rfl,g4⟩
 exact ⟨_,_,_,rfl,fun V11 l11=>⟨_,_,_,rfl,g4.le l11 fun _ _ g=>RSp.le g l11⟩⟩
def SJoins (f:Nat) (op:Int):Prop:=∀{V:View} {p:OA} {n c:Nat} {q:OA} {m d:Nat} {A B:List Sp} {x y:Nat},Lst 8 RSp V p n A->Lst 8 RSp V q m B->Ok6 A x->Ok6 B y->x + y < 50 ->
 Acts prog f #[.slice p n c,.slice q m d] V fun r V'=>∃q m e,r=.tuple #[.slice q m e,.nilIface]/\Lst 8 RSp V' q m (combL op A B)
theorem c_span_Union:SJoins 13 1:=by
 intro V p n c q m d A B x y hA hB oA oB h
 refine vc_span_Union p n c q m d V _ fun V1 l1=>(c_span_two (hA.le l1 fun _ _ g=>RSp.le g l1) (hB.le l1 fun _ _ g=>RSp.le g l1) oA oB h c_Set_Union).mono ?_
 rintro r V2 l2 ⟨q,m,e,rfl,g⟩
 exact ⟨_,_,_,_,rfl,fun V3 l3=>⟨_,_,_,rfl,g.le l3 fun _ _ g=>RSp.le g l3⟩⟩
theorem c_span_Intersect:SJoins 14 2:=by
 intro V p n c q m d A B x y hA hB oA oB h
 refine vc_span_Intersect p n c q m d V _ fun V1 l1=>(c_span_two (hA.le l1 fun _ _ g=>RSp.le g l1) (hB.le l1 fun _ _ g=>RSp.le g l1) oA oB h c_Set_Intersect).mono ?_
 rintro r V2 l2 ⟨q,m,e,rfl,g⟩
 exact ⟨_,_,_,_,rfl,fun V3 l3=>⟨_,_,_,rfl,g.le l3 fun _ _ g=>RSp.le g l3⟩⟩
theorem c_SameAll {V:View} {p:OA} {n c:Nat} {q:OA} {m d:Nat} {A:List Sp} (hA:Lst 8 RSp V p n A) (hB:Lst 8 RSp V q m A) (hn:A.length<=1000) (hs:∀s ∈ A,s.sz 10000) :
  Acts prog 18 #[.slice p n c,.slice q m d] V fun r V'=>r=.bool true:=by
 obtain rfl:=hA.len
 obtain rfl:=hB.len
 refine vc_ref06_SameAll p _ c q _ d V _ ⟨fun h=>by simp at h,fun _=>⟨fun z V'=>∃j:Nat,z=(j:Int)/\j<=A.length,fun z=>A.length - z.toNat,⟨0,by and_intros <;> rfl,0,rfl,Nat.zero_le _⟩,?_⟩⟩
 rintro z V2 l2 ⟨j,rfl,jle⟩
 refine ⟨rfl,fun hlt=>?_,fun hlt V6 l6=>rfl⟩
 have hlt:(j:Int) < A.length:=of_decide_eq_true hlt
 have hi:j < A.length:=by omega
 obtain ⟨ad,ha,xs,-,hf,hat⟩:=(hA.le l2 fun _ _ g=>RSp.le g l2).at_ j hi
 obtain ⟨ad',ha',ys,-,hf',hat'⟩:=(hB.le l2 fun _ _ g=>RSp.le g l2).at_ j hi
 have hf0:=hf
 have hf0':=hf'
 obtain ⟨_,_,_,_,_,_,_,_,_,_,_,_,_,_,ex⟩:=sp_shape hf
 obtain ⟨_,_,_,_,_,_,_,_,_,_,_,_,_,_,ey⟩:=sp_shape hf'
 have ex:=congrArg Array.toList (Value.agg.inj ex)
 have ey:=congrArg Array.toList (Value.agg.inj ey)
 dsimp only at ex ey
 subst ex ey
 have w:i64.wrap ((j:Int) + 1)=((j + 1:Nat):Int):=by rw [i64w (by omega)]; rfl
 rw [Int.toNat_natCast,w]
 refine ⟨isSome_addr ha,⟨by omega,by omega⟩,_,_,_,_,_,_,_,_,_,_,_,_,_,_,_,_,ad,ha,hat 0 _ rfl,hat 1 _ rfl,hat 2 _ rfl,hat 3 _ rfl,hat 4 _ rfl,hat 5 _ rfl,hat 6 _ rfl,hat 7 _ rfl,isSome_addr ha',⟨by omega,by omega⟩,_,_,_,_,_,_,_,_,_,_,_,_,_,_,_,_,ad',ha',hat' 0 _ rfl,hat' 1 _ rfl,hat' 2 _ rfl,hat' 3 _ rfl,hat' 4 _ rfl,hat' 5 _ rfl,hat' 6 _ rfl,hat' 7 _ rfl,fun V3 l3=>(c_ref06_Same (hf0.le l3) (hf0'.le l3) (hs _ (List.getElem_mem hi)) (by decide)).mono ?_⟩
 rintro r V4 l4 rfl
 exact ⟨_,rfl,(fun h=>nomatch h),fun _=>⟨((j + 1:Nat):Int),by dsimp only; omega,by and_intros <;> rfl,j + 1,rfl,hi⟩⟩
end Go.Proofs.Tryz
/- A new block that is handed back; scene.New. -/
namespace Go.Proofs.Tryz
open Go.Eng Go.Big
/-- All that is there is hidden. -/
def hideAll (V:View):View:=⟨V.w,fun b=>b < V.w.heap.size,fun _=>False,fun _ h=>h,fun _ h=>h.elim⟩
/-- A block that is seen when all was hidden is new. -/
theorem acts_fresh {f:FuncId} {args:Array Value} {V:View} {o:Obj} (h:Acts prog f args (hideAll V) fun r V'=>∃bk,r=.pointer (some ⟨bk,0,none⟩)/\V'.blk bk o) :
  Acts prog f args V fun r V'=>∃bk,r=.pointer (some ⟨bk,0,none⟩)/\V.w.heap.size<=bk/\V'.blk bk o:=
 ⟨h.1,h.2.mono fun _ _ ⟨_,he,hx,bk,hr,hb⟩=>⟨_,he,⟨hx.size,fun b hb _=>hx.blk b hb (fun h=>h),hx.os,hx.tape,hx.out⟩,bk,hr,Nat.le_of_not_lt hb.1,fun hh=>hb.1 (V.hH bk hh),hb.2⟩⟩
theorem c_scene_New {V:View} {lp:OA} {ln lc:Nat} (hc:ln<=lc) :
  Acts prog 10 #[.slice lp ln lc] V fun r V'=>∃bk,r=.pointer (some ⟨bk,0,none⟩)/\V.w.heap.size<=bk/\V'.blk bk (.cells #[.slice lp (min ln 400) lc,.int .i64 0] 107 (0,0)):=by
 refine acts_fresh (vc_scene_New lp ln lc (hideAll V) _ ?_)
 have e:minI (ln:Int) 400=((min ln 400:Nat):Int):=by
  unfold minI
  simp only [Nat.min_def]
  split <;> split <;> omega
 rw [e,Int.toNat_natCast]
 have:=Nat.min_le_left ln 400
 exact ⟨⟨by omega,by omega⟩,fun V1 l1 bk hb=>⟨bk,rfl,hb⟩⟩
/-- What was seen is seen behind a new block that is hidden. -/
theorem le_fresh {V1 V2 V3:View} {bk:Nat} (l2:V1.Le V2) (hfr:V1.w.heap.size<=bk) (l3:(V2.hide bk).Le V3):V1.Le V3:=fun b o h=>l3 b o ⟨fun hh=>hh.elim (l2 b o h).1 fun e=>by
  have hlt:b < V1.w.heap.size:=by
   rcases Nat.lt_or_ge b V1.w.heap.size with h' | h'
   ·exact h'
   ·have:=h.2; rw [Array.getElem?_eq_none h'] at this; cases this
  have:=e.1
  omega,(l2 b o h).2⟩
end Go.Proofs.Tryz
/- Contracts: the tape's spans and fragments. -/
namespace Go.Proofs.Tryz
open Go.Eng Go.Big
theorem s_half:∀i:Fin 6,(mkRat ((i.1:Int) + 1) 2).num.sign=1/\Sz 10 (mkRat ((i.1:Int) + 1) 2):=by unfold Sz; decide +kernel
theorem rq0 (V:View):RQ V (.agg #[.bool false,.slice none 0 0,.slice none 0 0]) 0:=by have:=RQ.zero (V:=V); simpa using this
theorem sz0 (k:Nat) (hk:0 < k):Sz k (0:Rat):=⟨by show (0:Int).natAbs < _; exact Nat.lt_of_lt_of_le (by decide) (Nat.one_le_two_pow),Nat.one_lt_two_pow (by omega)⟩
theorem c_ref06_Full {V:View}:Acts prog 27 #[] V fun r V'=>RSs V' r ⟨0,0,true,true⟩:=
 vc_ref06_Full V _ fun V1 l1=>⟨_,_,_,_,_,_,_,_,_,_,_,_,_,_,rfl,rq0 _,rq0 _⟩
theorem rs_shape {V:View} {v:Value} {s:Sp} (h:RSs V v s):∃b p n c p' n' c' d q m e q' m' e',v=.agg #[.bool b,.slice p n c,.slice p' n' c',.bool d,.slice q m e,.slice q' m' e',.bool s.a,.bool s.b]:=by
 obtain ⟨_,_,_,_,_,_,_,_,_,_,_,_,_,_,e,-⟩:=h; exact ⟨_,_,_,_,_,_,_,_,_,_,_,_,_,_,e⟩
theorem c_S {V:View} {tb:Nat} {p:OA} {n c:Nat} {at_:Int} (hr:Rdl V p n) (hn:n<=400) (hw:TpAt V tb p n c at_) (hx:V.X tb) (h0:0<=at_) :
  Acts prog 87 #[.pointer (some ⟨tb,0,none⟩)] V fun r V'=>∃(s:Sp) (at':Int),RSs V' r s/\s.can/\s.emp=false/\s.sz 40/\0<=at'/\TpAt V' tb p n c at':=by
 refine vc_scene_Tape_S tb p n c at_ V _ hw hx fun V1 l1 bk1 e1 h1=>(c_Q (V:=V1.lend [bk1]) (hr.le fun b o h=>l1 b o h) hn e1 ⟨by simp,h1⟩ h0).mono ?_
 rintro r V2 l2 ⟨lo,at1,hq,sq,t1,hw1⟩
 have hq0:=hq
 obtain ⟨qa,qb,qc,qd,qe,qf,rfl⟩:=hq.shape
 refine ⟨_,_,_,_,_,_,_,rfl,_,_,_,_,hw1,fun V3 l3 bk7 e3 h3=>(c_Next (V:=V3.lend [bk7]) 6 (hr.le fun b o h=>l3 b o (l2 b o (l1 b o h))) hn e3 ⟨by simp,h3⟩ t1 (by omega) (by omega)).mono ?_⟩
 rintro r V4 l4 ⟨x,at2,rfl,x0,x1,t2,hw2⟩
 obtain ⟨i,rfl⟩:∃i:Nat,x=i:=⟨x.toNat,by omega⟩
 obtain ⟨z1,z2⟩:=s_half ⟨i,by omega⟩
 dsimp only at z1 z2
 have w1:i64.wrap (1 + (i:Int))=(i:Int) + 1:=by rw [i64w (by omega)]; omega
 refine ⟨_,rfl,_,_,_,_,hw2,fun V5 l5=>?_⟩
 rw [w1]
 refine (c_num_Part ((i:Int) + 1) 2 (by omega) (by omega) (by omega) (by omega)).mono ?_
 generalize mkRat ((i:Int) + 1) 2=q at *
 rintro r V6 l6 gp
 have gp0:=gp
 obtain ⟨_,_,_,_,_,_,rfl⟩:=gp.shape
 have l27:∀{V7:View},V6.Le V7->V2.Le V7:=fun l7 b o h=>l7 b o (l6 b o (l5 b o (l4 b o (l3 b o h))))
 refine ⟨_,_,_,_,_,_,_,rfl,fun V7 l7=>(c_num_Plus (hq0.le (l27 l7)) (gp0.le l7) sq z2 (by omega)).mono ?_⟩
 rintro r V8 l8 gh
 have gh0:=gh
 obtain ⟨ga,gb,gc,gd,ge,gf',rfl⟩:=gh.shape
 have sh:Sz 21 (lo + q):=sq.add z2
 have l02:∀{V9:View},V8.Le V9->V.Le V9:=fun l9 b o h=>l9 b o (l8 b o (l7 b o (l6 b o (l5 b o (l4 b o (l3 b o (l2 b o (l1 b o h))))))))
 refine ⟨_,_,_,_,_,_,_,rfl,fun V9 l9 bk17 e9 h9=>(c_Next (V:=V9.lend [bk17]) 8 (hr.le fun b o h=>l02 l9 b o h) hn e9 ⟨by simp,h9⟩ t2 (by omega) (by omega)).mono ?_⟩
 rintro r V10 l10 ⟨y,at3,rfl,y0,y1,t3,hw3⟩
 have l8_10:∀{V11:View},V10.shut.Le V11->V8.Le V11:=fun l11 b o h=>l11 b o (l10 b o (l9 b o h))
 have l2_10:∀{V11:View},V10.shut.Le V11->V2.Le V11:=fun l11=>(l27 l7).trans (l8.trans (l8_10 l11))
 have full:∀(V11 W:View),V10.shut.Le V11->V11.Le W->∀at4,0<=at4->TpAt W tb p n c at4->∃(s:Sp) (at':Int),RSs W (.agg #[.bool (decide (lo.num < 0)),.slice qa qb qc,.slice qd qe qf,.bool (decide ((lo + q).num < 0)),.slice ga gb gc,.slice gd ge gf',.bool false,.bool false]) s/\s.can/\s.emp=false/\s.sz 40/\0<=at'/\TpAt W tb p n c at':=fun V11 W l11 lw at4 t4 e4=>
  ⟨⟨lo,lo + q,false,false⟩,at4,⟨_,_,_,_,_,_,_,_,_,_,_,_,_,_,rfl,hq0.le ((l2_10 l11).trans lw),gh0.le ((l8_10 l11).trans lw)⟩,⟨(fun h=>nomatch h),(fun h=>nomatch h)⟩,by
   have e:cmpQ lo (lo + q)=- q.num.sign:=by
    rw [cmpQ_swap]
    unfold cmpQ
    rw [show lo + q - lo=q from by grind]
   unfold Sp.emp
   dsimp only
   rw [e,z1]
   rfl,⟨Sz.mono sq (by omega),Sz.mono sh (by omega)⟩,t4,e4⟩
 refine ⟨_,rfl,_,_,_,_,hw3,fun _ V11 l11 e11=>?_,fun _=>⟨fun _ V12 l12 e12=>?_,fun _=>⟨fun _ V13 l13 bk21 e13 h13=>(c_Next (V:=V13.lend [bk21]) 4 (hr.le fun b o h=>l13 b o (l10 b o (l02 l9 b o h))) hn e13 ⟨by simp,h13⟩ t3 (by omega) (by omega)).mono ?_,fun _ V19 l19 e19=>full _ _ l19 (View.Le.refl _) at3 t3 e19⟩⟩⟩
 ·exact ⟨⟨0,lo + q,true,false⟩,at3,⟨_,_,_,_,_,_,_,_,_,_,_,_,_,_,rfl,rq0 _,gh0.le (l8_10 l11)⟩,⟨fun _=>rfl,(fun h=>nomatch h)⟩,rfl,⟨sz0 _ (by omega),Sz.mono sh (by omega)⟩,t3,e11⟩
 ·exact ⟨⟨lo,0,false,true⟩,at3,⟨_,_,_,_,_,_,_,_,_,_,_,_,_,_,rfl,hq0.le (l2_10 l12),rq0 _⟩,⟨(fun h=>nomatch h),fun _=>rfl⟩,rfl,⟨Sz.mono sq (by omega),sz0 _ (by omega)⟩,t3,e12⟩
 ·rintro r V14 l14 ⟨z,at4,rfl,-,-,t4,hw4⟩
  refine ⟨_,rfl,_,_,_,_,hw4,fun _ V15 l15=>c_ref06_Full.mono ?_,fun _ V18 l18 e18=>full _ _ l13 (fun b o h=>l18 b o (l14 b o h)) at4 t4 e18⟩
  rintro r V16 l16 gf
  have gf0:=gf
  obtain ⟨_,_,_,_,_,_,_,_,_,_,_,_,_,_,rfl⟩:=rs_shape gf
  exact ⟨_,_,_,_,_,_,_,_,_,_,_,_,_,_,_,_,rfl,fun V17 l17 e17=>⟨⟨0,0,true,true⟩,at4,gf0.le l17,⟨fun _=>rfl,fun _=>rfl⟩,rfl,⟨sz0 _ (by omega),sz0 _ (by omega)⟩,t4,e17⟩⟩
end Go.Proofs.Tryz
/- By program: the conditions of the functions, from their loaded code. -/
namespace Go.Proofs.Tryz
open Go.Eng
open Go.Value renaming int→I,pointer→P,slice→S,agg→A,bool→B,tuple→T
open Go.IntKind renaming i64→J,u64→U,u32→W
set_option maxRecDepth 100000
theorem vc_law06_made (a:Nat) (e:OA) (f g:Nat) (i:Int) (V:View) (R:VR) (hw100000:V.w.heap[a]?=some (.cells #[S e f g,I J i] 107 (0,0))) (hx100000:V.X a) (h:(∀d,V.Le d->∀b:Nat,(d.w.heap[b]?=some (.cells #[S e f g,I J i] 107 (0,0)))->(d.H b)->Acts prog 25 #[P (some ⟨b,0,none⟩),I J 4] (d.lend [b]) fun z l=>∃m n o,z=S m n o/\∃p q r,∃s,l.w.heap[b]?=some (.cells #[S p q r,I J s] 107 (0,0))/\(∀t,l.shut.Le t->Acts prog 20 #[I J 1,S m n o,S none 0 0] t fun a0 a1=>∃u x y,a0=S u x y/\(∀k,a1.Le k->k.w.heap[a]?=some (.cells #[S p q r,I J s] 107 (0,0))->R (S u x y) k)))):
 Acts prog 12 #[P (some ⟨a,0,none⟩)] V R:=
 fn_does (LF:=LF0) (RF:=[1000010]) (β0:=(upd1 (fun _=>0) 100000 a)) tab_ok mixed [] [] func12 (by kernel_rfl) [(0,.c (.ptr 100000 0))] [(100000,⟨.lit [.v (S e f g),.v (I J i)],107⟩)] (by kernel_rfl) ⟨⟨hw100000,hx100000⟩,trivial,trivial⟩ h (by kernel_rfl)
theorem vc_law06_unit (b c:Int) (V:View) (R:VR) (h:(Ca V 19 #[I J b] fun a9 b0=>∃d,∃e f g,∃i k l,a9=A #[B d,S e f g,S i k l]/\(Ca b0 28 #[A #[B d,S e f g,S i k l]] fun b1 b2=>∃m,∃n o p,∃q r s,b1=A #[B m,S n o p,S q r s]/\(Ca b2 19 #[I J c] fun b3 b4=>∃t,∃u w x,∃y z a0,b3=A #[B t,S u w x,S y z a0]/\(Ca b4 28 #[A #[B t,S u w x,S y z a0]] fun b5 b6=>∃a1,∃a2 a3 a4,∃a5 a6 a7,b5=A #[B a1,S a2 a3 a4,S a5 a6 a7]/\(∀a,b6.Le a->∀a8:Nat,(a.blk a8 (.cells #[B m,S n o p,S q r s,B a1,S a2 a3 a4,S a5 a6 a7,B false,B false] 77 (0,0)))->R (S (some ⟨a8,0,none⟩) 1 1) a)))))):
 Acts prog 67 #[I J b,I J c] V R:=
 fd (LF:=LF0) (RF:=[1000010]) [] [] func67 h
theorem vc_law06_known (V:View) (R:VR) (h:(Ca V 67 #[I J 0,I J 1] fun a5 a6=>∃e f g,a5=S e f g/\(Ca a6 67 #[I J 1,I J 2] fun a7 a8=>∃i k l,a7=S i k l/\(Ca a8 13 #[S e f g,S i k l] fun a9 b0=>∃m n o,∃a,a9=T #[S m n o,a]/\(Ca b0 67 #[I J 0,I J 1] fun b1 b2=>∃p q r,b1=S p q r/\(Ca b2 67 #[I J 1,I J 2] fun b3 b4=>∃s t u,b3=S s t u/\(Ca b4 14 #[S p q r,S s t u] fun b5 c=>∃b6 w b7,∃b,b5=T #[S b6 w b7,b]/\(IsIface a)/\(((isNilI a)=true->(IsIface b)/\(((isNilI b)=true->(Ca c 67 #[I J 0,I J 2] fun b8 b9=>∃x y z,b8=S x y z/\(Ca b9 18 #[S m n o,S x y z] fun c0 a0=>∃d,c0=B d/\((d=true->(Rt a0 R (B ((w:Int) == (0:Int)))))/\(d=false->(Rt a0 R (B false)))))))/\((isNilI b)=false->(Rt c R (B false)))))/\((isNilI a)=false->(Rt c R (B false))))))))))):
 Acts prog 17 #[] V R:=
 fd (LF:=LF0) (RF:=[1000010]) [] [] func17 h
end Go.Proofs.Tryz
/- Law 06: SpanAlgebra. -/
namespace Go.Proofs.Tryz
open Go.Eng Go.Big
/-- Any row as it grows. -/
structure GR {α:Type} (sz:Nat) (R:View->Value->α->Prop) (V:View) (n c:Nat) (vs:List Value) (l:List α):Prop where
 len:n=l.length
 le:n<=c
 cap:c * sz<=vs.length
 row:Row sz R V vs l
theorem GR.nil {α:Type} {sz:Nat} {R:View->Value->α->Prop} {V:View}:GR sz R V 0 0 [] []:=⟨rfl,Nat.le_refl _,by simp,Row.nil⟩
theorem GR.mono {α:Type} {sz:Nat} {R:View->Value->α->Prop} {V V':View} {n c:Nat} {vs:List Value} {l:List α} (h:GR sz R V n c vs l) (m:∀v a,R V v a->R V' v a):GR sz R V' n c vs l:=⟨h.len,h.le,h.cap,h.row.le m⟩
theorem GR.snoc {α:Type} {sz:Nat} {R:View->Value->α->Prop} {V:View} {n c:Nat} {vs:List Value} {l:List α} (h:GR sz R V n c vs l) {xs:List Value} {a:α} (hx:xs.length=sz) (ha:R V (.agg xs.toArray) a) (h0:0 < sz) {sp:List Value} {c':Nat} (h1:n + 1<=c') (h2:c' * sz<=(n + 1) * sz + sp.length) :
  GR sz R V (n + 1) c' (vs.take (n * sz)++xs++sp) (l++[a]):=by
 have hn:=h.len
 have hc:=h.cap
 have hl:n * sz<=c * sz:=Nat.mul_le_mul_right _ h.le
 refine ⟨by rw [List.length_append,hn]; rfl,h1,?_,?_⟩
 ·have ht:(vs.take (n * sz)).length=n * sz:=by rw [List.length_take]; omega
  rw [List.length_append,List.length_append,ht,hx]
  rw [Nat.succ_mul] at h2
  exact h2
 ·have:=h.row.snoc (sp:=sp) hx ha h0
  rw [← hn] at this
  exact this
theorem one8s {b:Bool} {p:OA} {n c:Nat} {p':OA} {n' c':Nat} {d:Bool} {q:OA} {m e:Nat} {q':OA} {m' e':Nat} {x y:Bool}:∀v ∈ ([.bool b,.slice p n c,.slice p' n' c',.bool d,.slice q m e,.slice q' m' e',.bool x,.bool y]:List Value),v.oneCell'=true:=by
 intro v hm
 simp only [List.mem_cons,List.not_mem_nil,or_false] at hm
 rcases hm with rfl | rfl | rfl | rfl | rfl | rfl | rfl | rfl <;> rfl
theorem c_Ss {V:View} {tb:Nat} {p:OA} {n c:Nat} {at_:Int} (k:Int) (hr:Rdl V p n) (hn:n<=400) (hw:TpAt V tb p n c at_) (hx:V.X tb) (h0:0<=at_) (hk:0<=k) (hk2:k<=100) :
  Acts prog 25 #[.pointer (some ⟨tb,0,none⟩),.int .i64 k] V fun r V'=>∃(q:OA) (m e:Nat) (l:List Sp) (at':Int),r=.slice q m e/\RSl V' q m l/\(l.length:Int)<=k/\(∀s ∈ l,s.good/\s.sz 40)/\0<=at'/\TpAt V' tb p n c at':=by
 have w:i64.wrap (k + 1)=k + 1:=i64w (by omega)
 refine vc_scene_Tape_Ss tb p n c at_ k V _ hw hx fun V1 l1 bk1 e1 h1=>?_
 rw [w]
 refine (c_Next (V:=V1.lend [bk1]) (k + 1) (hr.le fun b o h=>l1 b o h) hn e1 ⟨by simp,h1⟩ h0 (by omega) (by omega)).mono ?_
 rintro r V2 l2 ⟨x,at1,rfl,x0,x1,t1,hw1⟩
 refine ⟨x,rfl,_,_,_,_,hw1,fun z V'=>∃l:List Sp,GR 8 RSs V' z.1 z.2.1 z.2.2.1 l/\0<=z.2.2.2.1/\(l.length:Int) + z.2.2.2.1<=k/\(∀s ∈ l,s.good/\s.sz 40)/\z.2.2.2.2.1=p/\z.2.2.2.2.2.1=n/\z.2.2.2.2.2.2.1=c/\0<=z.2.2.2.2.2.2.2,
  fun z=>z.2.2.2.1.toNat,⟨(0,0,[],x,p,n,c,at1),by and_intros <;> rfl,[],GR.nil,x0,by show ((0:Nat):Int) + x<=k; omega,fun s h=>(by cases h),rfl,rfl,rfl,t1⟩,?_⟩
 rintro ⟨z1,z2,vs,x',p',n',c',at2⟩ V3 l3 ⟨l,hs,y0,y1,hg,e1,e2,e3,t2⟩
 dsimp only at hs y0 y1 e1 e2 e3 t2
 subst e1 e2 e3
 have sl:=hs.len
 refine ⟨rfl,fun hlt V4 l4 bk9 e9 h9=>?_,fun hlt V6 l6 bk23 e6 hb=>?_⟩
 ·have hlt:x' > 0:=of_decide_eq_true hlt
  refine (c_S (V:=V4.lend [bk9]) (hr.le fun b o h=>l4 b o (l3 b o (l2 b o (l1 b o h)))) hn e9 ⟨by simp,h9⟩ t2).mono ?_
  rintro r V5 l5 ⟨s,at3,hs5,cn,em,sz,t3,hw5⟩
  have hs50:=hs5
  obtain ⟨_,_,_,_,_,_,_,_,_,_,_,_,_,_,rfl⟩:=rs_shape hs5
  dsimp only
  refine ⟨_,_,_,_,_,_,_,_,_,_,_,_,_,_,_,_,rfl,_,_,_,_,hw5,by omega,hs.le,hs.cap,rfl,one8s,fun sp c2 h1 h2=>⟨(z1 + 1,c2,_,x' - 1,p',n',c',at3),by dsimp only; omega,by and_intros <;> first | rfl | exact i64w (by omega),l++[s],
   (hs.mono (V':=V5.shut) fun _ _ g=>RSs.le g fun b o h=>l5 b o (l4 b o h)).snoc rfl (hs50.le (le_shut' _)) (by decide) h1 h2,by dsimp only; omega,by rw [List.length_append]; simp; omega,fun t ht=>?_,rfl,rfl,rfl,t3⟩⟩
  rcases List.mem_append.1 ht with ht | ht
  ·exact hg t ht
  ·rw [List.mem_singleton.1 ht]; exact ⟨⟨cn,em⟩,sz⟩
 ·subst sl
  exact ⟨_,_,_,l,at2,rfl,lst_rsl (Lst.of_mrow hb (hs.row.le fun _ _ g=>RSs.le g l6) (by decide) hs.le),by omega,hg,t2,e6⟩
theorem sz_up {s:Sp} (h:s.sz 40):s.sz 10000:=⟨h.1.mono (by decide),h.2.mono (by decide)⟩
theorem c_made {V:View} {tb:Nat} {p:OA} {n c:Nat} {at_:Int} (hr:Rdl V p n) (hn:n<=400) (hw:TpAt V tb p n c at_) (hx:V.X tb) (h0:0<=at_) :
  Acts prog 12 #[.pointer (some ⟨tb,0,none⟩)] V fun r V'=>∃(q:OA) (m e:Nat) (l:List Sp) (at':Int),r=.slice q m e/\RSl V' q m l/\Ok6 l 8/\(∀s ∈ l,s.sz 40)/\0<=at'/\TpAt V' tb p n c at':=by
 refine vc_law06_made tb p n c at_ V _ hw hx fun V1 l1 bk1 e1 h1=>(c_Ss (V:=V1.lend [bk1]) 4 (hr.le fun b o h=>l1 b o h) hn e1 ⟨by simp,h1⟩ h0 (by decide) (by decide)).mono ?_
 rintro r V2 l2 ⟨q,m,e,l,at1,rfl,hl,ll,hg,t1,hw1⟩
 refine ⟨_,_,_,rfl,_,_,_,_,hw1,fun V3 l3=>(c_ref06_Combine (op:=1) (la':=l) (lb':=[]) (hl.le fun b o h=>l3 b o h) ⟨rfl,fun i hi=>absurd hi (Nat.not_lt_zero i)⟩ (by simp; omega) (fun s h=>(hg s h).2) (fun s h=>by cases h) (by decide)).mono ?_⟩
 rintro r V4 l4 ⟨q',m',e',rfl,g⟩
 have hsz:∀s ∈ combL 1 l [],s.sz 40:=comb_sz (by decide) (fun s h=>(hg s h).2) (fun s h=>by cases h)
 have f1:=comb_fe 1 l []
 have f2:=fe_le l
 have f3:fe []=0:=rfl
 exact ⟨_,_,_,rfl,fun V5 l5 hw5=>⟨_,_,_,combL 1 l [],at1,rfl,g.le l5,⟨comb_reg _ _ _,fun s h=>sz_up (hsz s h),by omega,by have:=comb_len 1 l []; omega⟩,hsz,t1,hw5⟩⟩
/-- The span from a to b. -/
def spU (a b:Int):Sp:=⟨(a:Rat),(b:Rat),false,false⟩
theorem c_unit {V:View} (a b:Int) (ha:-100<=a/\a<=100) (hb:-100<=b/\b<=100) (sa:Sz 10 (a:Rat)) (sb:Sz 10 (b:Rat)):Acts prog 67 #[.int .i64 a,.int .i64 b] V fun r V'=>∃q m e,r=.slice q m e/\Lst 8 RSp V' q m [spU a b]:=by
 refine vc_law06_unit a b V _ fun V1 l1=>(c_num_Of a (by omega) (by omega)).mono ?_
 rintro r V2 l2 g1
 have g10:=g1
 obtain ⟨_,_,_,_,_,_,rfl⟩:=g1.shape
 refine ⟨_,_,_,_,_,_,_,rfl,fun V3 l3=>(c_ref01_ToQ (g10.le l3) sa (by decide)).mono ?_⟩
 rintro r V4 l4 g2
 have g20:=g2
 obtain ⟨_,_,_,_,_,_,_,rfl⟩:=g2.shape
 refine ⟨_,_,_,_,_,_,_,rfl,fun V5 l5=>(c_num_Of b (by omega) (by omega)).mono ?_⟩
 rintro r V6 l6 g3
 have g30:=g3
 obtain ⟨_,_,_,_,_,_,rfl⟩:=g3.shape
 refine ⟨_,_,_,_,_,_,_,rfl,fun V7 l7=>(c_ref01_ToQ (g30.le l7) sb (by decide)).mono ?_⟩
 rintro r V8 l8 g4
 have g40:=g4
 obtain ⟨_,_,_,_,_,_,_,rfl⟩:=g4.shape
 refine ⟨_,_,_,_,_,_,_,rfl,fun V9 l9 bk hbk=>⟨_,_,_,rfl,Lst.of_row (vs:=[.bool _,.slice _ _ _,.slice _ _ _,.bool _,.slice _ _ _,.slice _ _ _,.bool false,.bool false]) hbk (row_one rfl ?_)⟩⟩
 exact ⟨_,_,_,_,_,_,_,_,_,_,_,_,_,_,rfl,⟨(fun h=>nomatch h),fun _=>g20.le (l5.trans (l6.trans (l7.trans (l8.trans l9))))⟩,⟨(fun h=>nomatch h),fun _=>g40.le l9⟩⟩
theorem ok6_one {a b:Int} (h:(a:Rat) < (b:Rat)) (sa:Sz 10 (a:Rat)) (sb:Sz 10 (b:Rat)):Ok6 [spU a b] 2:=
 ⟨⟨fun s hs=>by rw [List.mem_singleton.1 hs]; exact ⟨⟨(fun h=>nomatch h),(fun h=>nomatch h)⟩,by rw [Sp.emp_iff]; exact .inr (.inr h)⟩,List.pairwise_singleton _ _⟩,fun s hs=>by rw [List.mem_singleton.1 hs]; exact ⟨sa.mono (by decide),sb.mono (by decide)⟩,fe_le _,by simp⟩
theorem uni_012:combL 1 [spU 0 1] [spU 1 2]=[spU 0 2]:=by
 refine reg_eq (endsL ([spU 0 1]++[spU 1 2])++[1]) (comb_reg _ _ _) (ok6_one (by decide) (sz_int (by decide) (by decide)) (sz_int (by decide) (by decide))).rg fun t ht=>?_
 simp only [List.mem_append,not_or,List.mem_singleton] at ht
 rw [comb_inB _ _ _ ht.1]
 have h1:=ht.2
 have e0:((0:Int):Rat)=0:=rfl
 have e1:((1:Int):Rat)=1:=rfl
 have e2:((2:Int):Rat)=2:=rfl
 unfold inB spU Sp.innB opB
 rw [e0,e1,e2]
 simp
 grind
theorem int_012:combL 2 [spU 0 1] [spU 1 2]=[]:=by
 refine reg_eq (endsL ([spU 0 1]++[spU 1 2])++[1]) (comb_reg _ _ _) ⟨fun s h=>(by cases h),List.Pairwise.nil⟩ fun t ht=>?_
 simp only [List.mem_append,not_or,List.mem_singleton] at ht
 rw [comb_inB _ _ _ ht.1]
 have h1:=ht.2
 have e0:((0:Int):Rat)=0:=rfl
 have e1:((1:Int):Rat)=1:=rfl
 have e2:((2:Int):Rat)=2:=rfl
 unfold inB spU Sp.innB opB
 rw [e0,e1,e2]
 simp
 grind
theorem c_known6 {V:View}:Acts prog 17 #[] V fun r V'=>r=.bool true:=by
 have s0:Sz 10 ((0:Int):Rat):=sz_int (by decide) (by decide)
 have s1:Sz 10 ((1:Int):Rat):=sz_int (by decide) (by decide)
 have s2:Sz 10 ((2:Int):Rat):=sz_int (by decide) (by decide)
 have o01:Ok6 [spU 0 1] 2:=ok6_one (by decide) s0 s1
 have o12:Ok6 [spU 1 2] 2:=ok6_one (by decide) s1 s2
 have o02:Ok6 [spU 0 2] 2:=ok6_one (by decide) s0 s2
 refine vc_law06_known V _ fun V1 l1=>(c_unit 0 1 (by decide) (by decide) s0 s1).mono ?_
 rintro r V2 l2 ⟨p1,n1,c1,rfl,g1⟩
 refine ⟨_,_,_,rfl,fun V3 l3=>(c_unit 1 2 (by decide) (by decide) s1 s2).mono ?_⟩
 rintro r V4 l4 ⟨p2,n2,c2,rfl,g2⟩
 have L3:=l3.trans l4
 refine ⟨_,_,_,rfl,fun V5 l5=>(c_span_Union (g1.le (L3.trans l5) fun _ _ g=>RSp.le g (L3.trans l5)) (g2.le l5 fun _ _ g=>RSp.le g l5) o01 o12 (by decide)).mono ?_⟩
 rintro r V6 l6 ⟨p3,n3,c3,rfl,g3⟩
 refine ⟨_,_,_,_,rfl,fun V7 l7=>(c_unit 0 1 (by decide) (by decide) s0 s1).mono ?_⟩
 rintro r V8 l8 ⟨p4,n4,c4,rfl,g4⟩
 refine ⟨_,_,_,rfl,fun V9 l9=>(c_unit 1 2 (by decide) (by decide) s1 s2).mono ?_⟩
 rintro r V10 l10 ⟨p5,n5,c5,rfl,g5⟩
 have L9:=l9.trans l10
 refine ⟨_,_,_,rfl,fun V11 l11=>(c_span_Intersect (g4.le (L9.trans l11) fun _ _ g=>RSp.le g (L9.trans l11)) (g5.le l11 fun _ _ g=>RSp.le g l11) o01 o12 (by decide)).mono ?_⟩
 rintro r V12 l12 ⟨p6,n6,c6,rfl,g6⟩
 rw [uni_012] at g3
 rw [int_012] at g6
 have n60:n6=0:=g6.len
 subst n60
 refine ⟨_,_,_,_,rfl,.inl rfl,fun _=>⟨.inl rfl,fun _ V13 l13=>(c_unit 0 2 (by decide) (by decide) s0 s2).mono ?_,(fun h=>nomatch h)⟩,(fun h=>nomatch h)⟩
 rintro r V14 l14 ⟨p7,n7,c7,rfl,g7⟩
 have L7:=l7.trans (l8.trans (l9.trans (l10.trans (l11.trans (l12.trans (l13.trans l14))))))
 refine ⟨_,_,_,rfl,fun V15 l15=>(c_SameAll (g3.le (L7.trans l15) fun _ _ g=>RSp.le g (L7.trans l15)) (g7.le l15 fun _ _ g=>RSp.le g l15) (by decide) o02.sz).mono ?_⟩
 rintro r V16 l16 rfl
 exact ⟨_,rfl,fun _ V17 l17=>rfl,(fun h=>nomatch h)⟩
end Go.Proofs.Tryz
/- Law 06: SpanAlgebra (printed by mkalg.py). -/
namespace Go.Proofs.Tryz
open Go.Eng Go.Big
theorem up {V V':View} {p:OA} {n:Nat} {l:List Sp} (h:Lst 8 RSp V p n l) (e:V.Le V'):Lst 8 RSp V' p n l:=h.le e fun _ _ g=>RSp.le g e
end Go.Proofs.Tryz
/- Plain: the lengths of the union and of the intersection add up. -/
namespace Go.Proofs.Tryz
open Go.Eng Go.Big
def lenL:List Sp->Rat
 | []=>0
 | s :: r=>(s.hi - s.lo) + lenL r
theorem lenL_snoc {s:Sp}:∀{r:List Sp},lenL (r++[s])=lenL r + (s.hi - s.lo)
 | []=>by simp only [List.nil_append,lenL]; grind
 | x :: r=>by simp only [List.cons_append,lenL,lenL_snoc (r:=r)]; grind
def bdd (C:List Sp):Prop:=∀s ∈ C,s.a=false/\s.b=false
theorem below (m:Rat):∀E:List Rat,∃t,t < m/\∀e ∈ E,t < e
 | []=>⟨m - 1,by grind,fun e h=>by cases h⟩
 | e :: r=>by
  obtain ⟨t,h1,h2⟩:=below m r
  by_cases h:t < e
  ·exact ⟨t,h1,fun x hx=>by rcases List.mem_cons.1 hx with rfl | hx; exact h; exact h2 x hx⟩
  ·exact ⟨e - 1,by grind,fun x hx=>by
    rcases List.mem_cons.1 hx with rfl | hx
    ·grind
    ·have:=h2 x hx; grind⟩
theorem above (m:Rat):∀E:List Rat,∃t,m < t/\∀e ∈ E,e < t
 | []=>⟨m + 1,by grind,fun e h=>by cases h⟩
 | e :: r=>by
  obtain ⟨t,h1,h2⟩:=above m r
  by_cases h:e < t
  ·exact ⟨t,h1,fun x hx=>by rcases List.mem_cons.1 hx with rfl | hx; exact h; exact h2 x hx⟩
  ·exact ⟨e + 1,by grind,fun x hx=>by
    rcases List.mem_cons.1 hx with rfl | hx
    ·grind
    ·have:=h2 x hx; grind⟩
end Go.Proofs.Tryz
/- By program: the conditions of the functions, from their loaded code. -/
namespace Go.Proofs.Tryz
open Go.Eng
open Go.Value renaming int→I,pointer→P,slice→S,agg→A,bool→B,tuple→T
open Go.IntKind renaming i64→J,u64→U,u32→W
set_option maxRecDepth 100000
theorem vc_span_Length (r:OA) (s t:Nat) (V:View) (R:VR) (h:(Ca V 63 #[S r s t] fun c5 l=>∃g e m,∃n,c5=T #[S g e m,B n]/\(((!n)=true->(∃u,(∃w,(some ⟨1,0,none⟩:OA)=some w/\l.at w (u))/\(Rt l R (T #[A #[B false,S none 0 0,S none 0 0],u]))))/\((!n)=false->(∃(o:(Int × Int × Int × (OA))->VP) (y:(Int × Int × Int × (OA))->Nat),(∃i,(s6 0 0 g e m (e:Int) (((0:Int)=i.1)/\s6 (none:OA) 0 0 (none:OA) 0 0 (((0:Int)=i.2.1)/\((0:Int)=i.2.2.1)/\((none:OA)=i.2.2.2))))/\o i l)/\∀(b:Int × Int × Int × (OA)) (a:View),l.Le a->o b a->(true=true/\(((decide (b.1 < (e:Int)))=true->(g.isSome=true)/\(0<=b.1/\b.1 < (e:Int))/\(∃z,∃a0,∃a1,∃a2,∃a3,∃a4,∃p,∃q,∃d,addrAdd g (b.1.toNat * 8)=some d/\a.at (d.add 0) (I J z)/\a.at (d.add 1) (I J a0)/\a.at (d.add 2) (P a1)/\a.at (d.add 3) (I J a2)/\a.at (d.add 4) (I J a3)/\a.at (d.add 5) (P a4)/\a.at (d.add 6) (B p)/\a.at (d.add 7) (B q)/\((p=true->(∃a5,(∃a6,(some ⟨0,0,none⟩:OA)=some a6/\a.at a6 (a5))/\(Rt a R (T #[A #[B false,S none 0 0,S none 0 0],a5]))))/\(p=false->((q=true->(∃a8,(∃a9,(some ⟨0,0,none⟩:OA)=some a9/\a.at a9 (a8))/\(Rt a R (T #[A #[B false,S none 0 0,S none 0 0],a8]))))/\(q=false->(Ca a 75 #[A #[I J a2,I J a3,P a4],A #[I J z,I J a0,P a1]] fun c6 c7=>∃b1,∃b2,∃b3,c6=A #[I J b1,I J b2,P b3]/\(Ca c7 74 #[A #[I J b.2.1,I J b.2.2.1,P b.2.2.2],A #[I J b1,I J b2,P b3]] fun c8 c9=>∃b4,∃b5,∃b6,c8=A #[I J b4,I J b5,P b6]/\(∃f:Int × Int × Int × (OA),y f < y b/\(s6 0 0 g e m (e:Int) (((J.wrap (b.1 + (1:Int)))=f.1)/\s6 (none:OA) 0 0 (none:OA) 0 0 ((b4=f.2.1)/\(b5=f.2.2.1)/\((b6:OA)=f.2.2.2))))/\o f c9)))))))))/\((decide (b.1 < (e:Int)))=false->(Ca a 76 #[A #[I J b.2.1,I J b.2.2.1,P b.2.2.2]] fun d0 d1=>∃b7,∃b8 b9 c0,∃c1 c2 c3,d0=A #[B b7,S b8 b9 c0,S c1 c2 c3]/\(Rt d1 R (T #[A #[B b7,S b8 b9 c0,S c1 c2 c3],.nilIface]))))))))))):
 Acts prog 21 #[S r s t] V R:=
 fd (LF:=LF0) (RF:=[1000010]) [(6,⟨Int × Int × Int × (OA),false,[2,6,18,19],[2],fun k=>[(20,.c (.v (I J k.1)))],fun k=>[(6,⟨.lit [.v (I J k.2.1),.v (I J k.2.2.1),.v (P k.2.2.2)],129⟩)]⟩)] [] func21 h
end Go.Proofs.Tryz
/- Contracts: span.Length of bounded sets; reading a number of package api. -/
namespace Go.Proofs.Tryz
open Go.Eng Go.Big
theorem lenL_sz:∀{l:List Sp} {k:Nat},(∀s ∈ l,s.sz k)->Sz (l.length * (2 * k + 2) + 1) (lenL l)
 | [],k,_=>by
  refine (szz 1 (by decide)).mono ?_
  rw [List.length_nil,Nat.zero_mul]; exact Nat.le_refl _
 | s :: r,k,h=>by
  have ih:=lenL_sz (l:=r) (k:=k) fun x hx=>h x (by simp [hx])
  have hs:=h s (by simp)
  refine ((hs.2.sub hs.1).add ih).mono ?_
  have e:(s :: r).length * (2 * k + 2)=r.length * (2 * k + 2) + (2 * k + 2):=by rw [List.length_cons,Nat.succ_mul]
  rw [e]
  generalize r.length * (2 * k + 2)=z
  omega
theorem c_span_Length {V:View} {p:OA} {n c:Nat} {A:List Sp} {x:Nat} (hA:Lst 8 RSp V p n A) (oA:Ok6 A x) (h:x < 50) (hb:bdd A) :
  Acts prog 21 #[.slice p n c] V fun r V'=>∃w,r=.tuple #[w,.nilIface]/\RA V' w (lenL A):=by
 have hn:=oA.len
 have hz:∀j,Sz 1100000 (lenL (A.take j)):=fun j=>(lenL_sz (k:=10000) fun s hs=>oA.sz s (List.mem_of_mem_take hs)).mono (by rw [List.length_take]; have:=Nat.min_le_right j A.length; omega)
 refine vc_span_Length p n c V _ fun V1 l1=>(c_SetOf (hA.le l1 fun _ _ g=>RSp.le g l1) oA (by omega)).mono ?_
 rintro r V2 l2 ⟨q,k,e,rfl,g⟩
 obtain rfl:=g.len
 refine ⟨_,_,_,_,rfl,(fun h=>nomatch h),fun _=>⟨fun z V'=>∃j:Nat,z.1=(j:Int)/\j<=A.length/\RR V' (.agg #[.int .i64 z.2.1,.int .i64 z.2.2.1,.pointer z.2.2.2]) (lenL (A.take j)),fun z=>A.length - z.1.toNat,⟨(0,0,0,none),by and_intros <;> rfl,0,rfl,Nat.zero_le _,RR.zero _⟩,?_⟩⟩
 rintro ⟨z,a1,a2,a3⟩ V4 l4 ⟨j,ez,jle,hs⟩
 dsimp only at ez hs
 subst ez
 have g4:=g.le l4 fun _ _ g=>RIv.le g l4
 dsimp only
 refine ⟨rfl,fun hlt=>?_,fun hlt V11 l11=>(c_R_API (hs.le l11) (hz j) (by decide)).mono ?_⟩
 ·have hlt:(j:Int) < A.length:=of_decide_eq_true hlt
  have hi:j < A.length:=by omega
  obtain ⟨ad,ha,xs,-,hv,hat⟩:=g4.at_ j hi
  obtain ⟨x1,x2,q1,y1,y2,q2,ex,r1,r2⟩:=hv
  have ex:=congrArg Array.toList (Value.agg.inj ex)
  dsimp only at ex
  subst ex
  obtain ⟨b1,b2⟩:=hb _ (List.getElem_mem hi)
  have ss:=oA.sz _ (List.getElem_mem hi)
  have w:i64.wrap ((j:Int) + 1)=((j + 1:Nat):Int):=by rw [i64w (by omega)]; rfl
  rw [Int.toNat_natCast,w]
  refine ⟨isSome_addr ha,⟨by omega,by omega⟩,_,_,_,_,_,_,_,_,ad,ha,hat 0 _ rfl,hat 1 _ rfl,hat 2 _ rfl,hat 3 _ rfl,hat 4 _ rfl,hat 5 _ rfl,hat 6 _ rfl,hat 7 _ rfl,fun h=>(by rw [b1] at h; cases h),fun _=>⟨fun h=>(by rw [b2] at h; cases h),fun _ V7 l7=>(c_R_Sub (r2.le l7) (r1.le l7) ss.2 ss.1 (by decide)).mono ?_⟩⟩
  rintro r V8 l8 f
  have f0:=f
  obtain ⟨u1,u2,u3,rfl⟩:=f.shape
  refine ⟨_,_,_,rfl,fun V9 l9=>(c_R_Add (hs.le (l7.trans (l8.trans l9))) (f0.le l9) (hz j) (ss.2.sub ss.1) (by decide)).mono ?_⟩
  rintro r V10 l10 d
  have d0:=d
  obtain ⟨t1,t2,t3,rfl⟩:=d.shape
  refine ⟨_,_,_,rfl,(((j + 1:Nat):Int),_,_,_),by dsimp only; omega,by and_intros <;> rfl,j + 1,rfl,hi,?_⟩
  rw [List.take_add_one,List.getElem?_eq_getElem hi]
  rw [show (some A[j]).toList=[A[j]] from rfl,lenL_snoc]
  exact d0
 ·have hlt:¬ (j:Int) < A.length:=of_decide_eq_false hlt
  obtain rfl:j=A.length:=by omega
  rw [List.take_length]
  rintro r V12 l12 d
  have d0:=d
  obtain ⟨_,_,_,_,_,_,_,rfl⟩:=d.shape
  exact ⟨_,_,_,_,_,_,_,rfl,fun V13 l13=>⟨_,rfl,d0.le l13⟩⟩
end Go.Proofs.Tryz
/- A sentinel error that is seen. -/
namespace Go.Proofs.Tryz
open Go.Eng
/-- A sentinel error: what its variable holds. -/
def Sent (V:View) (g:Nat) (y:Value):Prop:=V.at ⟨g,0,none⟩ y
theorem Sent.le {V V':View} {g:Nat} {y:Value} (h:Sent V g y) (l:V.Le V'):Sent V' g y:=l.at h
/-- A value of a sentinel's kind. -/
def SErr (y:Value):Prop:=∃a:Addr,y=.iface 336 (.pointer (some a))
end Go.Proofs.Tryz
/- By program: the conditions of the functions, from their loaded code. -/
namespace Go.Proofs.Tryz
open Go.Eng
open Go.Value renaming int→I,pointer→P,slice→S,agg→A,bool→B,tuple→T
open Go.IntKind renaming i64→J,u64→U,u32→W
set_option maxRecDepth 100000
theorem vc_geo_Iv_Sample (c d:Int) (e:OA) (f g:Int) (i:OA) (a b:Bool) (V:View) (R:VR) (h:((a=true->((b=true->(Rt V R (A #[I J 0,I J 0,P none])))/\(b=false->((a=true->(Ca V 133 #[I J 1] fun c8 c9=>∃l,∃m,∃n,c8=A #[I J l,I J m,P n]/\(Ca c9 75 #[A #[I J f,I J g,P i],A #[I J l,I J m,P n]] fun d0 d1=>∃o,∃p,∃q,d0=A #[I J o,I J p,P q]/\(Rt d1 R (A #[I J o,I J p,P q])))))/\(a=false->((b=true->(Ca V 133 #[I J 1] fun d2 d3=>∃s,∃t,∃u,d2=A #[I J s,I J t,P u]/\(Ca d3 74 #[A #[I J c,I J d,P e],A #[I J s,I J t,P u]] fun d4 d5=>∃w,∃x,∃y,d4=A #[I J w,I J x,P y]/\(Rt d5 R (A #[I J w,I J x,P y])))))/\(b=false->(Ca V 74 #[A #[I J c,I J d,P e],A #[I J f,I J g,P i]] fun d6 d7=>∃a0,∃a1,∃a2,d6=A #[I J a0,I J a1,P a2]/\(Ca d7 153 #[A #[I J a0,I J a1,P a2]] fun d8 d9=>∃a3,∃a4,∃a5,d8=A #[I J a3,I J a4,P a5]/\(Rt d9 R (A #[I J a3,I J a4,P a5])))))))))))/\(a=false->((a=true->(Ca V 133 #[I J 1] fun e0 e1=>∃a7,∃a8,∃a9,e0=A #[I J a7,I J a8,P a9]/\(Ca e1 75 #[A #[I J f,I J g,P i],A #[I J a7,I J a8,P a9]] fun e2 e3=>∃b0,∃b1,∃b2,e2=A #[I J b0,I J b1,P b2]/\(Rt e3 R (A #[I J b0,I J b1,P b2])))))/\(a=false->((b=true->(Ca V 133 #[I J 1] fun e4 e5=>∃b4,∃b5,∃b6,e4=A #[I J b4,I J b5,P b6]/\(Ca e5 74 #[A #[I J c,I J d,P e],A #[I J b4,I J b5,P b6]] fun e6 e7=>∃b7,∃b8,∃b9,e6=A #[I J b7,I J b8,P b9]/\(Rt e7 R (A #[I J b7,I J b8,P b9])))))/\(b=false->(Ca V 74 #[A #[I J c,I J d,P e],A #[I J f,I J g,P i]] fun e8 e9=>∃c1,∃c2,∃c3,e8=A #[I J c1,I J c2,P c3]/\(Ca e9 153 #[A #[I J c1,I J c2,P c3]] fun f0 f1=>∃c4,∃c5,∃c6,f0=A #[I J c4,I J c5,P c6]/\(Rt f1 R (A #[I J c4,I J c5,P c6]))))))))))):
 Acts prog 96 #[A #[I J c,I J d,P e,I J f,I J g,P i,B a,B b]] V R:=
 fd (LF:=LF0) (RF:=[1000010]) [] [] func96 h
theorem vc_span_Samples (z:OA) (a0 a1:Nat) (V:View) (R:VR) (h:(Ca V 63 #[S z a0 a1] fun b9 l=>∃g e t,∃u,b9=T #[S g e t,B u]/\(((!u)=true->(∃a2,(∃a3,(some ⟨1,0,none⟩:OA)=some a3/\l.at a3 (a2))/\(Rt l R (T #[S none 0 0,a2]))))/\((!u)=false->(∃(w:(Nat × Nat × (List Value) × Int)->VP) (a5:(Nat × Nat × (List Value) × Int)->Nat),(∃i,(s5 g e t (e:Int) (none:OA) (((0:Nat)=i.1)/\((0:Nat)=i.2.1)/\sm 0/\((0:Int)=i.2.2.2)/\(i.2.2.1=[])))/\w i l)/\∀(a:Nat × Nat × (List Value) × Int) (b:View),l.Le b->w a b->(true=true/\(((decide (a.2.2.2 < (e:Int)))=true->(g.isSome=true)/\(0<=a.2.2.2/\a.2.2.2 < (e:Int))/\(∃a6,∃a7,∃a8,∃a9,∃b0,∃b1,∃b2,∃b3,∃d,addrAdd g (a.2.2.2.toNat * 8)=some d/\b.at (d.add 0) (I J a6)/\b.at (d.add 1) (I J a7)/\b.at (d.add 2) (P a8)/\b.at (d.add 3) (I J a9)/\b.at (d.add 4) (I J b0)/\b.at (d.add 5) (P b1)/\b.at (d.add 6) (B b2)/\b.at (d.add 7) (B b3)/\(Ca b 96 #[A #[I J a6,I J a7,P a8,I J a9,I J b0,P b1,B b2,B b3]] fun c0 c1=>∃b4,∃b5,∃b6,c0=A #[I J b4,I J b5,P b6]/\(Ca c1 76 #[A #[I J b4,I J b5,P b6]] fun c2 c3=>∃m,∃n o p,∃q r s,c2=A #[B m,S n o p,S q r s]/\((a.1 + 1) * 56<=140737488355328/\a.1<=a.2.1/\a.2.1 * 3<=a.2.2.1.length/\([B m,S n o p,S q r s]:List Value).length=1 * 3/\(∀c4 ∈ ([B m,S n o p,S q r s]:List Value),c4.oneCell'=true)/\∀(b7:List Value) (x:Nat),a.1 + 1<=x->x * 3<=(a.1 + 1) * 3 + b7.length->(∃f:Nat × Nat × (List Value) × Int,a5 f < a5 a/\(s4 g e t (e:Int) (((a.1 + 1:Nat)=f.1)/\((x:Nat)=f.2.1)/\((J.wrap (a.2.2.2 + (1:Int)))=f.2.2.2)/\((a.2.2.1.take (a.1 * 3)++([B m,S n o p,S q r s]:List Value)++b7)=f.2.2.1)))/\w f c3))))))/\((decide (a.2.2.2 < (e:Int)))=false->(∀y,b.Le y->∀b8:Nat,(a.2.2.1≠[]->y.blk b8 (.cells a.2.2.1.toArray 51 (0,0)))->R (T #[S (mA b8 a.2.1) a.1 a.2.1,.nilIface]) y))))))))):
 Acts prog 34 #[S z a0 a1] V R:=
 fd (LF:=LF0) (RF:=[1000010]) [(6,⟨Nat × Nat × (List Value) × Int,false,[17,18],[],fun k=>[(6,.c (.msl 6 k.1 k.2.1)),(19,.c (.v (I J k.2.2.2)))],fun k=>[(6,⟨.mrow k.2.2.1,51⟩)]⟩)] [] func34 h
theorem vc_ref06_Length (k:OA) (i l:Nat) (V:View) (R:VR) (h:(∃(m:(Int × Bool × (OA) × Nat × Nat × (OA) × Nat × Nat)->VP) (p:(Int × Bool × (OA) × Nat × Nat × (OA) × Nat × Nat)->Nat),(∃e,(s6 0 0 k i l (i:Int) (((0:Int)=e.1)/\s6 (none:OA) 0 0 (none:OA) 0 0 ((false=e.2.1)/\((none:OA)=e.2.2.1)/\((0:Nat)=e.2.2.2.1)/\((0:Nat)=e.2.2.2.2.1)/\((none:OA)=e.2.2.2.2.2.1)/\((0:Nat)=e.2.2.2.2.2.2.1)/\((0:Nat)=e.2.2.2.2.2.2.2))))/\m e V)/\∀(a:Int × Bool × (OA) × Nat × Nat × (OA) × Nat × Nat) (b:View),V.Le b->m a b->(true=true/\(((decide (a.1 < (i:Int)))=true->(k.isSome=true)/\(0<=a.1/\a.1 < (i:Int))/\(∃q,∃r s t,∃u w x,∃y,∃z a0 a1,∃a2 a3 a4,∃n,∃o,∃f,addrAdd k (a.1.toNat * 8)=some f/\b.at (f.add 0) (B q)/\b.at (f.add 1) (S r s t)/\b.at (f.add 2) (S u w x)/\b.at (f.add 3) (B y)/\b.at (f.add 4) (S z a0 a1)/\b.at (f.add 5) (S a2 a3 a4)/\b.at (f.add 6) (B n)/\b.at (f.add 7) (B o)/\((n=true->(Rt b R (T #[A #[B false,S none 0 0,S none 0 0],B false])))/\(n=false->((o=true->(Rt b R (T #[A #[B false,S none 0 0,S none 0 0],B false])))/\(o=false->(Ca b 78 #[A #[B y,S z a0 a1,S a2 a3 a4],A #[B q,S r s t,S u w x]] fun c2 c3=>∃a7,∃a8 a9 b0,∃b1 b2 b3,c2=A #[B a7,S a8 a9 b0,S b1 b2 b3]/\(Ca c3 23 #[A #[B a.2.1,S a.2.2.1 a.2.2.2.1 a.2.2.2.2.1,S a.2.2.2.2.2.1 a.2.2.2.2.2.2.1 a.2.2.2.2.2.2.2],A #[B a7,S a8 a9 b0,S b1 b2 b3]] fun c4 c5=>∃b4,∃b5 b6 b7,∃b8 b9 c0,c4=A #[B b4,S b5 b6 b7,S b8 b9 c0]/\(∃d:Int × Bool × (OA) × Nat × Nat × (OA) × Nat × Nat,p d < p a/\(s6 0 0 k i l (i:Int) (((J.wrap (a.1 + (1:Int)))=d.1)/\s6 (none:OA) 0 0 (none:OA) 0 0 ((b4=d.2.1)/\((b5:OA)=d.2.2.1)/\((b6:Nat)=d.2.2.2.1)/\((b7:Nat)=d.2.2.2.2.1)/\((b8:OA)=d.2.2.2.2.2.1)/\((b9:Nat)=d.2.2.2.2.2.2.1)/\((c0:Nat)=d.2.2.2.2.2.2.2))))/\m d c5)))))))))/\((decide (a.1 < (i:Int)))=false->(Rt b R (T #[A #[B a.2.1,S a.2.2.1 a.2.2.2.1 a.2.2.2.2.1,S a.2.2.2.2.2.1 a.2.2.2.2.2.2.1 a.2.2.2.2.2.2.2],B true]))))))):
 Acts prog 35 #[S k i l] V R:=
 fd (LF:=LF0) (RF:=[1000010]) [(3,⟨Int × Bool × (OA) × Nat × Nat × (OA) × Nat × Nat,false,[2,4,7,8],[2],fun g=>[(9,.c (.v (I J g.1)))],fun g=>[(4,⟨.lit [.v (B g.2.1),.v (S g.2.2.1 g.2.2.2.1 g.2.2.2.2.1),.v (S g.2.2.2.2.2.1 g.2.2.2.2.2.2.1 g.2.2.2.2.2.2.2)],42⟩)]⟩)] [] func35 h
end Go.Proofs.Tryz
/- Contracts: the samples of spans (package span), the reference's length. -/
namespace Go.Proofs.Tryz
open Go.Eng Go.Big
theorem RR.half (V:View):RR V (.agg #[.int .i64 1,.int .i64 1,.pointer none]) (((2:Int):Rat)⁻¹):=by
 have e1:(((2:Int):Rat)⁻¹).num=1:=by decide +kernel
 have e2:(((2:Int):Rat)⁻¹).den=2:=by decide +kernel
 refine .inl ⟨by rw [e1,e2]; rfl,?_⟩
 unfold Wd
 rw [e1,e2]; decide
theorem c_R_Half {V:View} {v:Value} {x:Rat} (hx:RR V v x) {k:Nat} (hk:Sz k x) (hkm:k + 2 < 1099511627776) :
  Acts prog 153 #[v] V fun r V'=>RR V' r (x * ((2:Int):Rat)⁻¹):=by
 have hx0:=hx
 obtain ⟨a,b,c,rfl⟩:=hx.shape
 refine vc_frac_R_Half a b c V _ fun V1 l1=>(c_R_Mul (hx0.le l1) (RR.half V1) hk (sz_inv szi_two) hkm).mono ?_
 rintro r V2 l2 g
 have g0:=g
 obtain ⟨u,v,w,rfl⟩:=g.shape
 exact ⟨_,_,_,rfl,fun V3 l3=>g0.le l3⟩
theorem c_Iv_Sample {V:View} {v:Value} {s:Sp} (h:RIv V v s) {k:Nat} (hs:s.sz k) (hk:4 * k + 8 < 1099511627776) :
  Acts prog 96 #[v] V fun r V'=>RR V' r s.samp:=by
 obtain ⟨x1,x2,p,y1,y2,q,rfl,h1,h2⟩:=h
 have a1:s.a=true->s.b=true->s.samp=0:=fun x y=>by simp [Sp.samp,x,y]
 have a2:s.a=true->s.b=false->s.samp=s.hi - ((1:Int):Rat):=fun x y=>by simp [Sp.samp,x,y]
 have a3:s.a=false->s.b=true->s.samp=s.lo + ((1:Int):Rat):=fun x y=>by simp [Sp.samp,x,y]
 have a4:s.a=false->s.b=false->s.samp=(s.lo + s.hi) * ((2:Int):Rat)⁻¹:=fun x y=>by simp [Sp.samp,x,y]
 have no:∀{P:Prop},s.a=true->s.a=false->P:=fun x y=>by rw [x] at y; cases y
 have nob:∀{P:Prop},s.b=true->s.b=false->P:=fun x y=>by rw [x] at y; cases y
 refine vc_geo_Iv_Sample x1 x2 p y1 y2 q s.a s.b V _ ⟨fun ha=>⟨fun hb V1 l1=>?_,fun hb=>⟨fun _ V2 l2=>(c_frac_Int 1 (by decide) (by decide)).mono ?_,fun e=>no ha e⟩⟩,fun ha=>⟨fun e=>no e ha,fun _=>⟨fun hb V22 l22=>(c_frac_Int 1 (by decide) (by decide)).mono ?_,fun hb V27 l27=>(c_R_Add (h1.le l27) (h2.le l27) hs.1 hs.2 (by omega)).mono ?_⟩⟩⟩
 ·rw [a1 ha hb]; exact RR.zero _
 ·rintro r V3 l3 g
  have g0:=g
  obtain ⟨u,v,w,rfl⟩:=g.shape
  refine ⟨_,_,_,rfl,fun V4 l4=>(c_R_Sub (h2.le (l2.trans (l3.trans l4))) (g0.le l4) hs.2 szi_one (by omega)).mono ?_⟩
  rintro r V5 l5 f
  have f0:=f
  obtain ⟨u,v,w,rfl⟩:=f.shape
  exact ⟨_,_,_,rfl,fun V6 l6=>by rw [a2 ha hb]; exact f0.le l6⟩
 ·rintro r V3 l3 g
  have g0:=g
  obtain ⟨u,v,w,rfl⟩:=g.shape
  refine ⟨_,_,_,rfl,fun V4 l4=>(c_R_Add (h1.le (l22.trans (l3.trans l4))) (g0.le l4) hs.1 szi_one (by omega)).mono ?_⟩
  rintro r V5 l5 f
  have f0:=f
  obtain ⟨u,v,w,rfl⟩:=f.shape
  exact ⟨_,_,_,rfl,fun V6 l6=>by rw [a3 ha hb]; exact f0.le l6⟩
 ·rintro r V3 l3 g
  have g0:=g
  obtain ⟨u,v,w,rfl⟩:=g.shape
  refine ⟨_,_,_,rfl,fun V4 l4=>(c_R_Half (g0.le l4) (hs.1.add hs.2) (by omega)).mono ?_⟩
  rintro r V5 l5 f
  have f0:=f
  obtain ⟨u,v,w,rfl⟩:=f.shape
  exact ⟨_,_,_,rfl,fun V6 l6=>by rw [a4 ha hb]; exact f0.le l6⟩
theorem one3 {b:Bool} {p:OA} {n c:Nat} {p':OA} {n' c':Nat}:∀v ∈ ([.bool b,.slice p n c,.slice p' n' c']:List Value),v.oneCell'=true:=by
 intro v hm
 simp only [List.mem_cons,List.not_mem_nil,or_false] at hm
 rcases hm with rfl | rfl | rfl <;> rfl
theorem c_span_Samples {V:View} {p:OA} {n c:Nat} {A:List Sp} {x:Nat} (hA:Lst 8 RSp V p n A) (oA:Ok6 A x) (h:x < 50) :
  Acts prog 34 #[.slice p n c] V fun r V'=>∃q m e,r=.tuple #[.slice q m e,.nilIface]/\Lst 3 RA V' q m (A.map Sp.samp):=by
 have hn:=oA.len
 refine vc_span_Samples p n c V _ fun V1 l1=>(c_SetOf (hA.le l1 fun _ _ g=>RSp.le g l1) oA (by omega)).mono ?_
 rintro r V2 l2 ⟨q,k,e,rfl,g⟩
 obtain rfl:=g.len
 refine ⟨_,_,_,_,rfl,(fun h=>nomatch h),fun _=>⟨fun z V'=>∃j:Nat,z.2.2.2=(j:Int)/\j<=A.length/\GR 3 RA V' z.1 z.2.1 z.2.2.1 ((A.take j).map Sp.samp),fun z=>A.length - z.2.2.2.toNat,⟨(0,0,[],0),by and_intros <;> rfl,0,rfl,Nat.zero_le _,GR.nil⟩,?_⟩⟩
 rintro ⟨z1,z2,vs,z4⟩ V4 l4 ⟨j,e4,jle,hr⟩
 dsimp only at e4 hr
 subst e4
 have zl:=hr.len
 rw [List.length_map,List.length_take] at zl
 refine ⟨rfl,fun hlt=>?_,fun hlt V9 l9 bk hb=>?_⟩
 ·have hlt:(j:Int) < A.length:=of_decide_eq_true hlt
  have hi:j < A.length:=by omega
  obtain ⟨ad,ha,xs,-,hv,hat⟩:=(g.le l4 fun _ _ g=>RIv.le g l4).at_ j hi
  have hv0:=hv
  obtain ⟨x1,x2,q1,y1,y2,q2,ex,-⟩:=hv
  have ex:=congrArg Array.toList (Value.agg.inj ex)
  dsimp only at ex
  subst ex
  have ss:=oA.sz _ (List.getElem_mem hi)
  have w:i64.wrap ((j:Int) + 1)=((j + 1:Nat):Int):=by rw [i64w (by omega)]; rfl
  dsimp only
  rw [Int.toNat_natCast,w]
  refine ⟨isSome_addr ha,⟨by omega,by omega⟩,_,_,_,_,_,_,_,_,ad,ha,hat 0 _ rfl,hat 1 _ rfl,hat 2 _ rfl,hat 3 _ rfl,hat 4 _ rfl,hat 5 _ rfl,hat 6 _ rfl,hat 7 _ rfl,fun V5 l5=>(c_Iv_Sample (hv0.le l5) ss (by decide)).mono ?_⟩
  rintro r V6 l6 f
  have f0:=f
  obtain ⟨u,v,w',rfl⟩:=f.shape
  refine ⟨_,_,_,rfl,fun V7 l7=>(c_R_API (f0.le l7) (sz_samp ss) (by decide)).mono ?_⟩
  rintro r V8 l8 d
  have d0:=d
  obtain ⟨_,_,_,_,_,_,_,rfl⟩:=d.shape
  have L:=l5.trans (l6.trans (l7.trans l8))
  refine ⟨_,_,_,_,_,_,_,rfl,by omega,hr.le,hr.cap,rfl,one3,fun sp c' h1 h2=>⟨(z1 + 1,c',_,((j + 1:Nat):Int)),by dsimp only; omega,by and_intros <;> rfl,j + 1,rfl,hi,?_⟩⟩
  dsimp only
  rw [List.take_add_one,List.getElem?_eq_getElem hi,List.map_append]
  exact (hr.mono (V':=V8) fun _ _ g=>RA.le g L).snoc rfl d0 (by decide) h1 h2
 ·have hlt:¬ (j:Int) < A.length:=of_decide_eq_false hlt
  obtain rfl:j=A.length:=by omega
  rw [List.take_length] at hr
  obtain rfl:=hr.len
  exact ⟨_,_,_,rfl,Lst.of_mrow hb (hr.row.le fun _ _ g=>RA.le g l9) (by decide) hr.le⟩
def bddB (A:List Sp):Bool:=A.all fun s=>!s.a && !s.b
theorem bddB_iff {A:List Sp}:bddB A=true↔bdd A:=by
 unfold bddB bdd
 rw [List.all_eq_true]
 exact ⟨fun h s hs=>by have:=h s hs; simpa using this,fun h s hs=>by have:=h s hs; simpa using this⟩
theorem c_ref06_Length {V:View} {p:OA} {n c:Nat} {A:List Sp} (hA:Lst 8 RSs V p n A) (hn:A.length<=50) {k:Nat} (hs:∀s ∈ A,s.sz k) (hk:k<=1000) :
  Acts prog 35 #[.slice p n c] V fun r V'=>∃w,r=.tuple #[w,.bool (bddB A)]/\(bddB A=true->RQ V' w (lenL A))/\∃b p n c p' n' c',w=.agg #[.bool b,.slice p n c,.slice p' n' c']:=by
 obtain rfl:=hA.len
 have hz:∀j,Sz 110000 (lenL (A.take j)):=fun j=>(lenL_sz (k:=1000) fun s h=>⟨(hs s (List.mem_of_mem_take h)).1.mono hk,(hs s (List.mem_of_mem_take h)).2.mono hk⟩).mono (by rw [List.length_take]; have:=Nat.min_le_right j A.length; omega)
 refine vc_ref06_Length p _ c V _ ⟨fun z V'=>∃j:Nat,z.1=(j:Int)/\j<=A.length/\(∀s ∈ A.take j,s.a=false/\s.b=false)/\RQ V' (.agg #[.bool z.2.1,.slice z.2.2.1 z.2.2.2.1 z.2.2.2.2.1,.slice z.2.2.2.2.2.1 z.2.2.2.2.2.2.1 z.2.2.2.2.2.2.2]) (lenL (A.take j)),fun z=>A.length - z.1.toNat,
  ⟨(0,false,none,0,0,none,0,0),by and_intros <;> rfl,0,rfl,Nat.zero_le _,fun s h=>(by cases h),RQ.zero⟩,?_⟩
 rintro ⟨z,b0,p1,n1,c1,p2,n2,c2⟩ V1 l1 ⟨j,ez,jle,hb,hq⟩
 dsimp only at ez hq
 subst ez
 dsimp only
 refine ⟨rfl,fun hlt=>?_,fun hlt V8 l8=>?_⟩
 ·have hlt:(j:Int) < A.length:=of_decide_eq_true hlt
  have hi:j < A.length:=by omega
  obtain ⟨ad,ha,xs,-,hv,hat⟩:=(hA.le l1 fun _ _ g=>RSs.le g l1).at_ j hi
  have hv0:=hv
  obtain ⟨b,p,n,c,p',n',c',d,q,m,e,q',m',e',ex,r1,r2⟩:=hv
  have ex:=congrArg Array.toList (Value.agg.inj ex)
  dsimp only at ex
  subst ex
  have ss:=hs _ (List.getElem_mem hi)
  have w:i64.wrap ((j:Int) + 1)=((j + 1:Nat):Int):=by rw [i64w (by omega)]; rfl
  rw [Int.toNat_natCast,w]
  have nb:∀(a:A[j].a=true \/ A[j].b=true),bddB A=false:=fun a=>by
   refine Bool.eq_false_iff.2 fun h=>?_
   have:=bddB_iff.1 h _ (List.getElem_mem hi)
   rcases a with a | a <;> rw [a] at this <;> simp at this
  refine ⟨isSome_addr ha,⟨by omega,by omega⟩,_,_,_,_,_,_,_,_,_,_,_,_,_,_,_,_,ad,ha,hat 0 _ rfl,hat 1 _ rfl,hat 2 _ rfl,hat 3 _ rfl,hat 4 _ rfl,hat 5 _ rfl,hat 6 _ rfl,hat 7 _ rfl,fun h V2 l2=>?_,fun h1=>⟨fun h V3 l3=>?_,fun h2 V4 l4=>(c_num_Sub (r2.le l4) (r1.le l4) ss.2 ss.1 (by omega)).mono ?_⟩⟩
  ·have e:=nb (.inl h)
   exact ⟨_,by rw [e],fun h=>(by rw [e] at h; cases h),_,_,_,_,_,_,_,rfl⟩
  ·have e:=nb (.inr h)
   exact ⟨_,by rw [e],fun h=>(by rw [e] at h; cases h),_,_,_,_,_,_,_,rfl⟩
  ·rintro r V5 l5 f
   have f0:=f
   obtain ⟨_,_,_,_,_,_,rfl⟩:=f.shape
   refine ⟨_,_,_,_,_,_,_,rfl,fun V6 l6=>(c_num_Plus (hq.le (l4.trans (l5.trans l6))) (f0.le l6) (hz j) (ss.2.sub ss.1) (by omega)).mono ?_⟩
   rintro r V7 l7 d
   have d0:=d
   obtain ⟨_,_,_,_,_,_,rfl⟩:=d.shape
   refine ⟨_,_,_,_,_,_,_,rfl,(((j + 1:Nat):Int),_,_,_,_,_,_,_),by dsimp only; omega,by and_intros <;> rfl,j + 1,rfl,hi,fun s h=>?_,?_⟩
   ·rw [List.take_add_one,List.getElem?_eq_getElem hi] at h
    rcases List.mem_append.1 h with h | h
    ·exact hb s h
    ·rw [List.mem_singleton.1 h]; exact ⟨h1,h2⟩
   ·rw [List.take_add_one,List.getElem?_eq_getElem hi]
    rw [show (some A[j]).toList=[A[j]] from rfl,lenL_snoc]
    exact d0
 ·have hlt:¬ (j:Int) < A.length:=of_decide_eq_false hlt
  obtain rfl:j=A.length:=by omega
  rw [List.take_length] at hb hq
  exact ⟨_,by rw [bddB_iff.2 hb],fun _=>hq.le l8,_,_,_,_,_,_,_,rfl⟩
/-- A set that is not bounded has no length. -/
theorem c_span_Length_un {V:View} {p:OA} {n c:Nat} {A:List Sp} {x:Nat} (hA:Lst 8 RSp V p n A) (oA:Ok6 A x) (h:x < 50) (hb:bddB A=false) {y:Value} (hy:Sent V 0 y) :
  Acts prog 21 #[.slice p n c] V fun r V'=>r=.tuple #[.agg #[.bool false,.slice none 0 0,.slice none 0 0],y]:=by
 have hn:=oA.len
 have hz:∀j,Sz 1100000 (lenL (A.take j)):=fun j=>(lenL_sz (k:=10000) fun s hs=>oA.sz s (List.mem_of_mem_take hs)).mono (by rw [List.length_take]; have:=Nat.min_le_right j A.length; omega)
 refine vc_span_Length p n c V _ fun V1 l1=>(c_SetOf (hA.le l1 fun _ _ g=>RSp.le g l1) oA (by omega)).mono ?_
 rintro r V2 l2 ⟨q,k,e,rfl,g⟩
 obtain rfl:=g.len
 refine ⟨_,_,_,_,rfl,(fun h=>nomatch h),fun _=>⟨fun z V'=>∃j:Nat,z.1=(j:Int)/\j<=A.length/\(∀s ∈ A.take j,s.a=false/\s.b=false)/\RR V' (.agg #[.int .i64 z.2.1,.int .i64 z.2.2.1,.pointer z.2.2.2]) (lenL (A.take j)),fun z=>A.length - z.1.toNat,⟨(0,0,0,none),by and_intros <;> rfl,0,rfl,Nat.zero_le _,fun s h=>(by cases h),RR.zero _⟩,?_⟩⟩
 rintro ⟨z,a1,a2,a3⟩ V4 l4 ⟨j,ez,jle,hbj,hs⟩
 dsimp only at ez hs
 subst ez
 have g4:=g.le l4 fun _ _ g=>RIv.le g l4
 have hy4:=hy.le (l1.trans (l2.trans l4))
 dsimp only
 refine ⟨rfl,fun hlt=>?_,fun hlt=>?_⟩
 ·have hlt:(j:Int) < A.length:=of_decide_eq_true hlt
  have hi:j < A.length:=by omega
  obtain ⟨ad,ha,xs,-,hv,hat⟩:=g4.at_ j hi
  obtain ⟨x1,x2,q1,y1,y2,q2,ex,r1,r2⟩:=hv
  have ex:=congrArg Array.toList (Value.agg.inj ex)
  dsimp only at ex
  subst ex
  have ss:=oA.sz _ (List.getElem_mem hi)
  have w:i64.wrap ((j:Int) + 1)=((j + 1:Nat):Int):=by rw [i64w (by omega)]; rfl
  rw [Int.toNat_natCast,w]
  refine ⟨isSome_addr ha,⟨by omega,by omega⟩,_,_,_,_,_,_,_,_,ad,ha,hat 0 _ rfl,hat 1 _ rfl,hat 2 _ rfl,hat 3 _ rfl,hat 4 _ rfl,hat 5 _ rfl,hat 6 _ rfl,hat 7 _ rfl,fun _=>⟨y,⟨_,rfl,hy4⟩,fun V5 l5=>rfl⟩,fun b1=>⟨fun _=>⟨y,⟨_,rfl,hy4⟩,fun V5 l5=>rfl⟩,fun b2 V7 l7=>(c_R_Sub (r2.le l7) (r1.le l7) ss.2 ss.1 (by decide)).mono ?_⟩⟩
  rintro r V8 l8 f
  have f0:=f
  obtain ⟨u1,u2,u3,rfl⟩:=f.shape
  refine ⟨_,_,_,rfl,fun V9 l9=>(c_R_Add (hs.le (l7.trans (l8.trans l9))) (f0.le l9) (hz j) (ss.2.sub ss.1) (by decide)).mono ?_⟩
  rintro r V10 l10 d
  have d0:=d
  obtain ⟨t1,t2,t3,rfl⟩:=d.shape
  refine ⟨_,_,_,rfl,(((j + 1:Nat):Int),_,_,_),by dsimp only; omega,by and_intros <;> rfl,j + 1,rfl,hi,fun s h=>?_,?_⟩
  ·rw [List.take_add_one,List.getElem?_eq_getElem hi] at h
   rcases List.mem_append.1 h with h | h
   ·exact hbj s h
   ·rw [List.mem_singleton.1 h]; exact ⟨b1,b2⟩
  ·rw [List.take_add_one,List.getElem?_eq_getElem hi]
   rw [show (some A[j]).toList=[A[j]] from rfl,lenL_snoc]
   exact d0
 ·have hlt:¬ (j:Int) < A.length:=of_decide_eq_false hlt
  obtain rfl:j=A.length:=by omega
  rw [List.take_length] at hbj
  rw [bddB_iff.2 hbj] at hb
  cases hb
end Go.Proofs.Tryz
/- By program: the conditions of the functions, from their loaded code. -/
namespace Go.Proofs.Tryz
open Go.Eng
set_option maxRecDepth 100000
end Go.Proofs.Tryz
/- Contracts: Join, Full. -/
namespace Go.Proofs.Tryz
open Go.Eng Go.Big
theorem RSs.full (V:View):RSs V (.agg #[.bool false,.slice none 0 0,.slice none 0 0,.bool false,.slice none 0 0,.slice none 0 0,.bool true,.bool true]) fullS:=
 ⟨_,_,_,_,_,_,_,_,_,_,_,_,_,_,rfl,RQ.zero,RQ.zero⟩
end Go.Proofs.Tryz
/- By program: the conditions of the functions, from their loaded code. -/
namespace Go.Proofs.Tryz
open Go.Eng
open Go.Value renaming int→I,pointer→P,slice→S,agg→A,bool→B,tuple→T
open Go.IntKind renaming i64→J,u64→U,u32→W
set_option maxRecDepth 100000
theorem vc_geo_Iv_Inside (m n:Int) (o:OA) (e f:Int) (g:OA) (i a:Bool) (b c:Int) (d:OA) (V:View) (R:VR) (h:((i=true->((a=true->(Rt V R (B true)))/\(a=false->(Ca V 129 #[A #[I J e,I J f,P g],A #[I J b,I J c,P d]] fun x y=>∃q,x=I J q/\(Rt y R (B (decide (q > (0:Int)))))))))/\(i=false->(Ca V 129 #[A #[I J m,I J n,P o],A #[I J b,I J c,P d]] fun z k=>∃l,z=I J l/\(((decide (l < (0:Int)))=true->((a=true->(Rt k R (B true)))/\(a=false->(Ca k 129 #[A #[I J e,I J f,P g],A #[I J b,I J c,P d]] fun a0 a1=>∃t,a0=I J t/\(Rt a1 R (B (decide (t > (0:Int)))))))))/\((decide (l < (0:Int)))=false->(Rt k R (B false)))))))):
 Acts prog 94 #[A #[I J m,I J n,P o,I J e,I J f,P g,B i,B a],A #[I J b,I J c,P d]] V R:=
 fd (LF:=LF0) (RF:=[1000010]) [] [] func94 h
theorem vc_span_Class (a1:OA) (a2 a3:Nat) (a4:Bool) (a5:OA) (a6 a7:Nat) (a8:OA) (a9 b0:Nat) (V:View) (R:VR) (h:(Ca V 63 #[S a1 a2 a3] fun c3 l=>∃f d m,∃n,c3=T #[S f d m,B n]/\(((!n)=true->(∃b1,(∃b2,(some ⟨1,0,none⟩:OA)=some b2/\l.at b2 (b1))/\(Rt l R (T #[I J 0,b1]))))/\((!n)=false->(Ca l 93 #[A #[B a4,S a5 a6 a7,S a8 a9 b0]] fun c4 b4=>∃g,∃i,∃k,c4=A #[I J g,I J i,P k]/\(∃(o:Int->VP) (b5:Int->Nat),(∃b6:Int,(s5 0 f d m (d:Int) (((0:Int)=b6)/\sm g/\sm i/\sm k))/\o b6 b4)/\∀(e:Int) (a:View),b4.Le a->o e a->(true=true/\(((decide (e < (d:Int)))=true->(f.isSome=true)/\(0<=e/\e < (d:Int))/\(∃p,∃q,∃r,∃s,∃t,∃u,∃w,∃x,∃b,addrAdd f (e.toNat * 8)=some b/\a.at (b.add 0) (I J p)/\a.at (b.add 1) (I J q)/\a.at (b.add 2) (P r)/\a.at (b.add 3) (I J s)/\a.at (b.add 4) (I J t)/\a.at (b.add 5) (P u)/\a.at (b.add 6) (B w)/\a.at (b.add 7) (B x)/\(Ca a 94 #[A #[I J p,I J q,P r,I J s,I J t,P u,B w,B x],A #[I J g,I J i,P k]] fun c5 b7=>∃y,c5=B y/\((y=true->(Rt b7 R (T #[I J 2,.nilIface])))/\(y=false->(Ca b7 95 #[A #[I J p,I J q,P r,I J s,I J t,P u,B w,B x],A #[I J g,I J i,P k]] fun c6 b9=>∃z,c6=B z/\((z=true->(Rt b9 R (T #[I J 1,.nilIface])))/\(z=false->(∃a0:Int,b5 a0 < b5 e/\(s5 0 f d m (d:Int) (((J.wrap (e + (1:Int)))=a0)/\sm g/\sm i/\sm k))/\o a0 b9)))))))))/\((decide (e < (d:Int)))=false->(Rt a R (T #[I J 0,.nilIface]))))))))))):
 Acts prog 32 #[S a1 a2 a3,A #[B a4,S a5 a6 a7,S a8 a9 b0]] V R:=
 fd (LF:=LF0) (RF:=[1000010]) [(6,⟨Int,false,[8,21,22],[8],fun c2=>[(23,.c (.v (I J c2)))],fun c2=>[]⟩)] [] func32 h
end Go.Proofs.Tryz
/- Contracts: where a number lies (package span). -/
namespace Go.Proofs.Tryz
open Go.Eng Go.Big
def Sp.ins (s:Sp) (t:Rat):Bool:=(s.a || decide (cmpQ s.lo t < 0)) && (s.b || decide (cmpQ s.hi t > 0))
theorem c_Iv_Inside {V:View} {v w:Value} {s:Sp} {t:Rat} (h:RIv V v s) (ht:RR V w t) {k:Nat} (hs:s.sz k) (st:Sz k t) (hk:2 * k < 1099511627776) :
  Acts prog 94 #[v,w] V fun r V'=>r=.bool (s.ins t):=by
 have ht0:=ht
 obtain ⟨x1,x2,p,y1,y2,q,rfl,h1,h2⟩:=h
 obtain ⟨t0,t1,t2,rfl⟩:=ht.shape
 refine vc_geo_Iv_Inside x1 x2 p y1 y2 q s.a s.b t0 t1 t2 V _ ⟨fun ha=>⟨fun hb V1 l1=>by simp [Sp.ins,ha,hb],fun hb V2 l2=>(c_R_Cmp (h2.le l2) (ht0.le l2) hs.2 st (by omega)).mono ?_⟩,fun ha V5 l5=>(c_R_Cmp (h1.le l5) (ht0.le l5) hs.1 st (by omega)).mono ?_⟩
 ·rintro r V3 l3 rfl
  exact ⟨_,rfl,fun V4 l4=>by simp [Sp.ins,ha,hb]⟩
 ·rintro r V6 l6 rfl
  refine ⟨_,rfl,fun hc=>⟨fun hb V7 l7=>by simp [Sp.ins,ha,hb,of_decide_eq_true hc],fun hb V8 l8=>(c_R_Cmp (h2.le (l5.trans (l6.trans l8))) (ht0.le (l5.trans (l6.trans l8))) hs.2 st (by omega)).mono ?_⟩,fun hc V11 l11=>by simp [Sp.ins,ha,of_decide_eq_false hc]⟩
  rintro r V9 l9 rfl
  exact ⟨_,rfl,fun V10 l10=>by simp [Sp.ins,ha,hb,of_decide_eq_true hc]⟩
theorem ins_cls {s:Sp} {t:Rat}:clsV (s.la t) (s.lb t)=if s.ins t then 2 else if s.has t then 1 else 0:=by
 obtain ⟨lo,hi,a,b⟩:=s
 have e1:=cmpQ_swap lo t
 have e2:=cmpQ_swap hi t
 unfold Sp.ins Sp.has Sp.la Sp.lb clsV
 rcases cmpQ_or lo t with ⟨-,h1⟩ | ⟨-,h1⟩ | ⟨-,h1⟩ <;> rcases cmpQ_or hi t with ⟨-,h2⟩ | ⟨-,h2⟩ | ⟨-,h2⟩ <;> rw [h1] at e1 <;> rw [h2] at e2 <;> cases a <;> cases b <;> simp_all <;> omega
theorem clsL_cons {s:Sp} {r:List Sp} {t:Rat}:clsL (s :: r) t=if clsV (s.la t) (s.lb t)≠0 then clsV (s.la t) (s.lb t) else clsL r t:=rfl
theorem c_span_Class_of {V:View} {p:OA} {n c:Nat} {v:Value} {A:List Sp} {x:Nat} {t:Rat} (hA:∀V1,V.Le V1->Acts prog 63 #[.slice p n c] V1 fun r V'=>∃q m e,r=.tuple #[.slice q m e,.bool true]/\Lst 8 RIv V' q m A) (oA:Ok6 A x) (h:x < 50) (sh:∃b p n c p' n' c',v=.agg #[.bool b,.slice p n c,.slice p' n' c'])
  (ht:∀V1,V.Le V1->Acts prog 93 #[v] V1 fun r V'=>RR V' r t) (st:Sz 10000 t) :
  Acts prog 32 #[.slice p n c,v] V fun r V'=>r=.tuple #[.int .i64 (clsL A t),.nilIface]:=by
 obtain ⟨_,_,_,_,_,_,_,rfl⟩:=sh
 have hn:=oA.len
 refine vc_span_Class p n c _ _ _ _ _ _ _ V _ fun V1 l1=>(hA V1 l1).mono ?_
 rintro r V2 l2 ⟨q,k,e,rfl,g⟩
 obtain rfl:=g.len
 refine ⟨_,_,_,_,rfl,(fun h=>nomatch h),fun _ V4 l4=>(ht V4 (l1.trans (l2.trans l4))).mono ?_⟩
 rintro r V5 l5 f
 have f0:=f
 obtain ⟨x5,x6,p7,rfl⟩:=f.shape
 refine ⟨_,_,_,rfl,fun z V'=>∃j:Nat,z=(j:Int)/\j<=A.length/\clsL A t=clsL (A.drop j) t,fun z=>A.length - z.toNat,⟨0,by and_intros <;> rfl,0,rfl,Nat.zero_le _,rfl⟩,?_⟩
 rintro z V6 l6 ⟨j,rfl,jle,hc⟩
 have g6:=g.le (l4.trans (l5.trans l6)) fun _ _ g=>RIv.le g (l4.trans (l5.trans l6))
 refine ⟨rfl,fun hlt=>?_,fun hlt V13 l13=>?_⟩
 ·have hlt:(j:Int) < A.length:=of_decide_eq_true hlt
  have hi:j < A.length:=by omega
  obtain ⟨ad,ha,xs,-,hv,hat⟩:=g6.at_ j hi
  have hv0:=hv
  obtain ⟨x1,x2,q1,y1,y2,q2,ex,r1,r2⟩:=hv
  have ex:=congrArg Array.toList (Value.agg.inj ex)
  dsimp only at ex
  subst ex
  have hs:=oA.sz _ (List.getElem_mem hi)
  have w:i64.wrap ((j:Int) + 1)=((j + 1:Nat):Int):=by rw [i64w (by omega)]; rfl
  rw [Int.toNat_natCast,w]
  rw [List.drop_eq_getElem_cons hi,clsL_cons,ins_cls] at hc
  refine ⟨isSome_addr ha,⟨by omega,by omega⟩,_,_,_,_,_,_,_,_,ad,ha,hat 0 _ rfl,hat 1 _ rfl,hat 2 _ rfl,hat 3 _ rfl,hat 4 _ rfl,hat 5 _ rfl,hat 6 _ rfl,hat 7 _ rfl,fun V7 l7=>(c_Iv_Inside (hv0.le l7) (f0.le (l6.trans l7)) hs st (by decide)).mono ?_⟩
  rintro r V8 l8 rfl
  refine ⟨_,rfl,fun hb V9 l9=>?_,fun hb V10 l10=>(c_Iv_Has (hv0.le (l7.trans (l8.trans l10))) (f0.le (l6.trans (l7.trans (l8.trans l10)))) hs st (by decide)).mono ?_⟩
  ·rw [hb] at hc
   rw [hc]; rfl
  ·rintro r V11 l11 rfl
   refine ⟨_,rfl,fun hd V12 l12=>?_,fun hd=>⟨((j + 1:Nat):Int),by dsimp only; omega,by and_intros <;> rfl,j + 1,rfl,hi,?_⟩⟩
   ·rw [hb,hd] at hc
    rw [hc]; rfl
   ·rw [hb,hd] at hc
    simpa using hc
 ·have hlt:¬ (j:Int) < A.length:=of_decide_eq_false hlt
  rw [List.drop_eq_nil_of_le (by omega)] at hc
  rw [hc]; rfl
theorem c_span_Class {V:View} {p:OA} {n c:Nat} {v:Value} {A:List Sp} {x:Nat} {t:Rat} (hA:Lst 8 RSp V p n A) (oA:Ok6 A x) (h:x < 50) (ht:RA V v t) (st:Sz 10000 t) :
  Acts prog 32 #[.slice p n c,v] V fun r V'=>r=.tuple #[.int .i64 (clsL A t),.nilIface]:=
 c_span_Class_of (fun V1 l1=>c_SetOf (hA.le l1 fun _ _ g=>RSp.le g l1) oA (by omega)) oA h (by obtain ⟨_,_,_,_,_,_,_,e⟩:=ht.shape; exact ⟨_,_,_,_,_,_,_,e⟩) (fun V1 l1=>c_frac_Of (ht.le l1) st (by decide)) st
end Go.Proofs.Tryz
/- errors.Is at a sentinel: the same, or nil. -/
namespace Go.Proofs.Tryz
open Go.Eng
section
open Go.RowKit Go.Extern.Stop Go.Stop Go.Extern
theorem er_typeOf (v:Value) (w:World):(Extern.ReflectliteType.typeOf #[.iface 336 v]).run prog w=.ok (.iface 225 (.agg #[.pointer (some ⟨4,336,none⟩)])) w:=by kernel_rfl
theorem er_comparable (w : World) : ((Extern.ReflectliteType.method fun t => do Extern.Rtype.noPackHeld "Comparable" t; (fun a => Value.bool a.comparable) <$> typeInfo t) #[.agg #[.pointer (some ⟨4, 336, none⟩)]]).run prog w = .ok (.bool true) w := by kernel_rfl
theorem er_comp:(prog.info? 336).map (·.comparable)=some true:=by kernel_rfl
theorem er_size:(prog.info? 360).map (·.size)=some 1:=by kernel_rfl
theorem er_methodComparable (v : Value) (w : World) : (Go.method 472 225 v "Comparable").run prog w = .ok (284, v) w := by kernel_rfl
/-- errors.Is(x, x), x a pointer to an errors.errorString. -/
theorem er_same (a:Addr) (w:World) :
  Calls prog 38 #[.iface 336 (.pointer (some a)),.iface 336 (.pointer (some a))] w fun e w'=>e=.returned (.bool true)/\w'=w:=by
 obtain ⟨i,hi,hcmp⟩:=Option.map_eq_some_iff.1 er_comp
 obtain ⟨j,hj,hjs⟩:=Option.map_eq_some_iff.1 er_size
 have h8:=@run_callFunc_extern prog 99 _ Extern.ReflectliteType.typeOf func99 (by kernel_rfl) (by kernel_rfl) (by kernel_rfl) (by kernel_rfl)
 have h32 := @run_callFunc_extern prog 284 _ (Extern.ReflectliteType.method fun t => do Extern.Rtype.noPackHeld "Comparable" t; pure (.bool (← typeInfo t).comparable)) func284 (by kernel_rfl) (by kernel_rfl) (by kernel_rfl) (by kernel_rfl)
 have tT:=er_typeOf
 have cT:=er_comparable
 have mR:=er_methodComparable
 have heq:=run_eql_iface_ptr_same (P:=prog) w a underlying30 underlying336 hi hcmp hj
 go_enter func38,ntmps38
 go_wp2
 refine wp_loop_rounds 1 ?_
 rw [rounds_succ]
 go_wp2
 go_ret
 exact ⟨rfl,rfl⟩
end
theorem acts_quiet {f:FuncId} {args:Array Value} {V:View} {v:Value} (hc:Callable prog f) (h:Calls prog f args V.w fun e w'=>e=.returned v/\w'=V.w):Acts prog f args V fun r _=>r=v:=
 ⟨hc,h.mono fun e w' ⟨h1,h2⟩=>by subst h2; exact ⟨v,h1,ExtX.refl _ _,rfl⟩⟩
theorem c_errors_Is_same {V:View} {y:Value} (h:SErr y):Acts prog 38 #[y,y] V fun r _=>r=.bool true:=by
 obtain ⟨a,rfl⟩:=h
 exact acts_quiet ⟨f38,func38,rfl,by kernel_rfl⟩ (er_same a V.w)
end Go.Proofs.Tryz
