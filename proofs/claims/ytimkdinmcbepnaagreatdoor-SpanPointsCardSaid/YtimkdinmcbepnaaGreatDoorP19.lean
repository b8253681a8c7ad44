/- A part of the proof (joined by program from: SpanB, NewA, SceneE, VLaw6, Law6A, Law6B, VLaw6C, SpanC, VLaw6D, SpanD, Law6D). -/
import Derived.Test.YtimkdinmcbepnaaGreatDoorP14
import Derived.Test.YtimkdinmcbepnaaGreatDoorP18
import Derived.Test.YtimkdinmcbepnaaGreatDoorP12
import Derived.Test.YtimkdinmcbepnaaGreatDoorP13
import Derived.Test.YtimkdinmcbepnaaGreatDoorP5
set_option linter.unusedVariables false
open Go.IntKind (i64 u64 u32)
/- Contracts: sets of intervals: read, joined, cut, written; the functions of package span. -/
namespace Go.Proofs.Tryz
open Go.Eng Go.Big
/-- A regular set with few ends and small numbers. -/
structure Ok6 (l:List Sp) (m:Nat):Prop where
 rg:reg l
 sz:∀s ∈ l,s.sz 10000
 fe:fe l<=m
 len:l.length<=m + 1
theorem Ok6.comb {a b:List Sp} {m n:Nat} (ha:Ok6 a m) (hb:Ok6 b n) (op:Int):Ok6 (combL op a b) (m + n):=
 ⟨comb_reg _ _ _,comb_sz (by decide) ha.sz hb.sz,Nat.le_trans (comb_fe op a b) (Nat.add_le_add ha.fe hb.fe),Nat.le_trans (comb_len op a b) (by have:=ha.fe; have:=hb.fe; omega)⟩
theorem ok6_full:Ok6 [fullS] 0:=⟨⟨fun s h=>by rw [List.mem_singleton.1 h]; exact ⟨⟨fun _=>rfl,fun _=>rfl⟩,rfl⟩,List.pairwise_singleton _ _⟩,fun s h=>by rw [List.mem_singleton.1 h]; exact ⟨szz _ (by decide),szz _ (by decide)⟩,by decide,by decide⟩
theorem c_U1 (a b:Bool) (W:View):Acts prog 127 #[.bool a,.bool b] W fun r _=>r=.bool (opB 1 a b):=
 vc_geo_Set_Union_1 a b W _ ⟨fun h V l=>by subst h; simp [opB],fun h V l=>by subst h; simp [opB]⟩
theorem c_I1 (a b:Bool) (W:View):Acts prog 128 #[.bool a,.bool b] W fun r _=>r=.bool (opB 2 a b):=
 vc_geo_Set_Intersect_1 a b W _ ⟨fun h V l=>by subst h; simp [opB],fun h V l=>by subst h; simp [opB]⟩
theorem c_D1 (a b:Bool) (W:View):Acts prog 132 #[.bool a,.bool b] W fun r _=>r=.bool (opB 3 a b):=
 vc_geo_Set_Subtract_1 a b W _ ⟨fun h V l=>by subst h; simp [opB],fun h V l=>by subst h; simp [opB]⟩
/-- A function that joins two sets. -/
def Joins (f:Nat) (op:Int):Prop:=∀{V:View} {p:OA} {n c:Nat} {q:OA} {m d:Nat} {A B:List Sp} {x y:Nat},Lst 8 RIv V p n A->Lst 8 RIv V q m B->Ok6 A x->Ok6 B y->x + y < 50 ->
 Acts prog f #[.slice p n c,.slice q m d] V fun r V'=>∃q m e,r=.slice q m e/\Lst 8 RIv V' q m (combL op A B)
theorem sweep_of {V:View} {p:OA} {n c:Nat} {q:OA} {m d:Nat} {A B:List Sp} {x y fa:Nat} {op:Int} (hA:Lst 8 RIv V p n A) (hB:Lst 8 RIv V q m B) (oA:Ok6 A x) (oB:Ok6 B y) (h:x + y < 50) (hf:∀a b (W:View),Acts prog fa #[.bool a,.bool b] W fun r _=>r=.bool (opB op a b)) :
  Acts prog 126 #[.agg #[.slice p n c,.slice q m d],.func (.func fa) #[] #[]] V fun r V'=>∃q m e,r=.slice q m e/\Lst 8 RIv V' q m (combL op A B):=
 c_sweep hA hB oA.rg.1 oB.rg.1 oA.sz oB.sz (by have:=oA.len; omega) (by have:=oB.len; omega) (by have:=oA.fe; have:=oB.fe; omega) hf
theorem c_Set_Union:Joins 61 1:=by
 intro V p n c q m d A B x y hA hB oA oB h
 refine vc_geo_Set_Union p n c q m d V _ fun V1 l1=>(sweep_of (hA.le l1 fun _ _ g=>RIv.le g l1) (hB.le l1 fun _ _ g=>RIv.le g l1) oA oB h c_U1).mono ?_
 rintro r V2 l2 ⟨q,m,e,rfl,g⟩
 exact ⟨_,_,_,rfl,fun V3 l3=>⟨_,_,_,rfl,g.le l3 fun _ _ g=>RIv.le g l3⟩⟩
theorem c_Set_Intersect:Joins 62 2:=by
 intro V p n c q m d A B x y hA hB oA oB h
 refine vc_geo_Set_Intersect p n c q m d V _ fun V1 l1=>(sweep_of (hA.le l1 fun _ _ g=>RIv.le g l1) (hB.le l1 fun _ _ g=>RIv.le g l1) oA oB h c_I1).mono ?_
 rintro r V2 l2 ⟨q,m,e,rfl,g⟩
 exact ⟨_,_,_,rfl,fun V3 l3=>⟨_,_,_,rfl,g.le l3 fun _ _ g=>RIv.le g l3⟩⟩
theorem c_Set_Subtract:Joins 66 3:=by
 intro V p n c q m d A B x y hA hB oA oB h
 refine vc_geo_Set_Subtract p n c q m d V _ fun V1 l1=>(sweep_of (hA.le l1 fun _ _ g=>RIv.le g l1) (hB.le l1 fun _ _ g=>RIv.le g l1) oA oB h c_D1).mono ?_
 rintro r V2 l2 ⟨q,m,e,rfl,g⟩
 exact ⟨_,_,_,rfl,fun V3 l3=>⟨_,_,_,rfl,g.le l3 fun _ _ g=>RIv.le g l3⟩⟩
theorem c_IvsOf {V:View} {p:OA} {n c:Nat} {ls:List Sp} (h:Lst 8 RSp V p n ls) (hn:ls.length<=1000) (hg:∀s ∈ ls,s.good) (hs:∀s ∈ ls,s.sz 10000) :
  Acts prog 88 #[.slice p n c] V fun r V'=>∃q m e,r=.tuple #[.slice q m e,.bool true]/\Lst 8 RIv V' q m ls:=by
 obtain rfl:=h.len
 refine vc_geo_IvsOf p _ c V _ ⟨fun h1=>absurd (of_decide_eq_true h1) (by omega),fun _=>⟨fun z V'=>∃j:Nat,z.2.2.2=(j:Int)/\j<=ls.length/\IR V' z.1 z.2.1 z.2.2.1 (ls.take j),
  fun z=>ls.length - z.2.2.2.toNat,⟨(0,0,[],0),by and_intros <;> rfl,0,rfl,Nat.zero_le _,IR.nil⟩,?_⟩⟩
 rintro ⟨z1,z2,vs,z4⟩ V1 l1 ⟨j,e4,jle,hir⟩
 dsimp only at e4 hir
 subst e4
 have zl:=hir.len
 rw [List.length_take] at zl
 refine ⟨rfl,fun hlt=>?_,fun hlt V4 l4 bk hb=>?_⟩
 ·have hlt:(j:Int) < ls.length:=of_decide_eq_true hlt
  have hi:j < ls.length:=by omega
  obtain ⟨ad,ha,xs,-,hf,hat⟩:=(h.le l1 fun _ _ g=>RSp.le g l1).at_ j hi
  have w:i64.wrap ((j:Int) + 1)=(j:Int) + 1:=i64w (by omega)
  dsimp only
  rw [Int.toNat_natCast,w]
  have hf0:=hf
  obtain ⟨_,_,_,_,_,_,_,_,_,_,_,_,_,_,ex⟩:=sp_shape hf
  have ex:=congrArg Array.toList (Value.agg.inj ex)
  dsimp only at ex
  subst ex
  have hgj:=hg _ (List.getElem_mem hi)
  refine ⟨isSome_addr ha,⟨by omega,by omega⟩,_,_,_,_,_,_,_,_,_,_,_,_,_,_,_,_,ad,ha,hat 0 _ rfl,hat 1 _ rfl,hat 2 _ rfl,hat 3 _ rfl,hat 4 _ rfl,hat 5 _ rfl,hat 6 _ rfl,hat 7 _ rfl,fun V2 l2=>(c_IvOf_ok (hf0.le l2) hgj.1 hgj.2 (hs _ (List.getElem_mem hi)) (by decide)).mono ?_⟩
  rintro r V3 l3 ⟨w,rfl,x1,x2,q,y1,y2,q',rfl,r1,r2⟩
  refine ⟨_,_,_,_,_,_,_,_,_,rfl,(fun h=>nomatch h),fun _=>⟨by omega,hir.le,hir.cap,rfl,one8,fun sp c' h1 h2=>⟨(z1 + 1,c',_,(j:Int) + 1),by dsimp only; omega,by and_intros <;> rfl,j + 1,rfl,hi,?_⟩⟩⟩
  dsimp only
  rw [List.take_add_one,List.getElem?_eq_getElem hi]
  exact (hir.mono (l2.trans l3)).snoc r1 r2 h1 h2
 ·have hlt:¬ (j:Int) < ls.length:=of_decide_eq_false hlt
  obtain rfl:j=ls.length:=by omega
  rw [List.take_length] at hir
  obtain rfl:=hir.len
  exact ⟨_,_,_,rfl,Lst.of_mrow hb (hir.row.le fun _ _ g=>RIv.le g l4) (by decide) hir.le⟩
theorem c_SetOf {V:View} {p:OA} {n c:Nat} {ls:List Sp} (h:Lst 8 RSp V p n ls) {m:Nat} (ho:Ok6 ls m) (hm:m < 100) :
  Acts prog 63 #[.slice p n c] V fun r V'=>∃q m e,r=.tuple #[.slice q m e,.bool true]/\Lst 8 RIv V' q m ls:=by
 have hn:=ho.len
 refine vc_geo_SetOf p n c V _ fun V1 l1=>(c_IvsOf (h.le l1 fun _ _ g=>RSp.le g l1) (by omega) ho.rg.1 ho.sz).mono ?_
 rintro r V2 l2 ⟨q,k,e,rfl,g⟩
 obtain rfl:=g.len
 refine ⟨_,_,_,_,rfl,(fun h=>nomatch h),fun _=>⟨fun z V'=>∃j:Nat,z=(j:Int)/\j<=ls.length,fun z=>ls.length - z.toNat,⟨0,by and_intros <;> rfl,0,rfl,Nat.zero_le _⟩,?_⟩⟩
 rintro z V4 l4 ⟨j,rfl,jle⟩
 refine ⟨rfl,fun hlt=>?_,fun hlt V10 l10=>⟨_,_,_,rfl,g.le (l4.trans l10) fun _ _ g=>RIv.le g (l4.trans l10)⟩⟩
 have hlt:(j:Int) < ls.length:=of_decide_eq_true hlt
 have hi:j < ls.length:=by omega
 have g4:=g.le l4 fun _ _ g=>RIv.le g l4
 obtain ⟨ad,ha,xs,-,⟨x1,x2,q1,y1,y2,q2,ex,r1,r2⟩,hat⟩:=g4.at_ j hi
 have ex:=congrArg Array.toList (Value.agg.inj ex)
 dsimp only at ex
 subst ex
 have w:i64.wrap ((j:Int) + 1)=((j + 1:Nat):Int):=by rw [i64w (by omega)]; rfl
 rw [Int.toNat_natCast,w]
 refine ⟨isSome_addr ha,⟨by omega,by omega⟩,_,_,_,_,_,_,_,_,ad,ha,hat 0 _ rfl,hat 1 _ rfl,hat 2 _ rfl,hat 3 _ rfl,hat 4 _ rfl,hat 5 _ rfl,hat 6 _ rfl,hat 7 _ rfl,fun h0=>?_,fun h0=>⟨((j + 1:Nat):Int),by dsimp only; omega,by and_intros <;> rfl,j + 1,rfl,hi⟩⟩
 have h0:(j:Int) > 0:=of_decide_eq_true h0
 obtain ⟨i,rfl⟩:∃i,j=i + 1:=⟨j - 1,by omega⟩
 have hi':i < ls.length:=by omega
 obtain ⟨b1,b2,b3⟩:=List.pairwise_iff_getElem.1 ho.rg.2 i (i + 1) hi' hi (by omega)
 have w2:i64.wrap (((i + 1:Nat):Int) - 1)=(i:Int):=by rw [i64w (by omega)]; omega
 rw [w2,Int.toNat_natCast]
 obtain ⟨ad',ha',xs,-,⟨u1,u2,p1,v1,v2,p2,ex,r1',r2'⟩,hat'⟩:=g4.at_ i hi'
 have ex:=congrArg Array.toList (Value.agg.inj ex)
 dsimp only at ex
 subst ex
 have hat7:=hat' 7 _ rfl
 have hat3:=hat' 3 _ rfl
 have hat4:=hat' 4 _ rfl
 have hat5:=hat' 5 _ rfl
 have A7:addrAdd (addrAdd q (i * 8)) 7=some (ad'.add 7):=by rw [ha']; rfl
 have A3:addrAdd (addrAdd q (i * 8)) 3=some (ad'.add 3):=by rw [ha']; rfl
 refine ⟨fun h=>(by rw [b2] at h; cases h),fun _=>⟨isSome_addr ha',⟨by omega,by omega⟩,by rw [ha']; rfl,_,⟨_,A7,hat7⟩,fun h=>(by rw [b1] at h; cases h),fun _=>⟨isSome_addr ha',⟨by omega,by omega⟩,by rw [ha']; rfl,v1,v2,p2,_,A3,by rw [adr_add2]; exact hat3,by rw [adr_add2]; exact hat4,by rw [adr_add2]; exact hat5,fun V7 l7=>(c_R_Cmp (r2'.le l7) (r1.le l7) (ho.sz _ (List.getElem_mem hi')).2 (ho.sz _ (List.getElem_mem hi)).1 (by decide)).mono ?_⟩⟩⟩
 rintro r V8 l8 rfl
 refine ⟨_,rfl,fun h=>?_,fun _=>⟨((i + 1 + 1:Nat):Int),by dsimp only; omega,by and_intros <;> rfl,i + 1 + 1,rfl,hi⟩⟩
 have h:=of_decide_eq_true h
 rcases cmpQ_or ls[i].hi ls[i + 1].lo with ⟨h1,e⟩ | ⟨h1,e⟩ | ⟨h1,e⟩ <;> rw [e] at h <;> grind
theorem c_All {V:View}:Acts prog 130 #[] V fun r V'=>r=.agg #[.int .i64 0,.int .i64 0,.pointer none,.int .i64 0,.int .i64 0,.pointer none,.bool true,.bool true]:=
 vc_geo_All V _ fun V1 l1=>rfl
theorem c_Set_Complement {V:View} {p:OA} {n c:Nat} {A:List Sp} {x:Nat} (hA:Lst 8 RIv V p n A) (oA:Ok6 A x) (h:x < 50) :
  Acts prog 64 #[.slice p n c] V fun r V'=>∃q m e,r=.slice q m e/\Lst 8 RIv V' q m (cpl A):=by
 refine vc_geo_Set_Complement p n c V _ fun V1 l1=>c_All.mono ?_
 rintro r V2 l2 rfl
 have L2:=l1.trans l2
 refine ⟨_,_,_,_,_,_,_,_,rfl,fun V3 l3 bk hb=>(c_Set_Subtract (V:=V3) (A:=[fullS]) (c:=1) (d:=c) (Lst.of_row (vs:=[.int .i64 0,.int .i64 0,.pointer none,.int .i64 0,.int .i64 0,.pointer none,.bool true,.bool true]) hb (row_one rfl ⟨_,_,_,_,_,_,rfl,RR.zero _,RR.zero _⟩)) (hA.le (L2.trans l3) fun _ _ g=>RIv.le g (L2.trans l3)) ok6_full oA (by omega)).mono ?_⟩
 rintro r V4 l4 ⟨q,m,e,rfl,g⟩
 exact ⟨_,_,_,rfl,fun _ V5 l5=>⟨_,_,_,rfl,g.le l5 fun _ _ g=>RIv.le g l5⟩⟩
/-! package span -/
theorem c_span_two {V:View} {p:OA} {n c:Nat} {q:OA} {m d:Nat} {A B:List Sp} {x y fa:Nat} {op:Int} (hA:Lst 8 RSp V p n A) (hB:Lst 8 RSp V q m B) (oA:Ok6 A x) (oB:Ok6 B y) (h:x + y < 50) (hf:Joins fa op) :
  Acts prog 60 #[.slice p n c,.slice q m d,.func (.func fa) #[] #[]] V fun r V'=>∃q m e,r=.tuple #[.slice q m e,.nilIface]/\Lst 8 RSp V' q m (combL op A B):=by
 have oC:=oA.comb oB op
 refine vc_span_two p n c q m d fa V _ fun V1 l1=>(c_SetOf (hA.le l1 fun _ _ g=>RSp.le g l1) oA (by omega)).mono ?_
 rintro r V2 l2 ⟨p1,n1,d1,rfl,g1⟩
 refine ⟨_,_,_,_,rfl,fun V3 l3=>(c_SetOf (hB.le (l1.trans (l2.trans l3)) fun _ _ g=>RSp.le g (l1.trans (l2.trans l3))) oB (by omega)).mono ?_⟩
 rintro r V4 l4 ⟨p2,n2,d2,rfl,g2⟩
 refine ⟨_,_,_,_,rfl,(fun h=>nomatch h),fun _=>⟨(fun h=>nomatch h),fun _ V7 l7=>(hf (g1.le (l3.trans (l4.trans l7)) fun _ _ g=>RIv.le g (l3.trans (l4.trans l7))) (g2.le l7 fun _ _ g=>RIv.le g l7) oA oB h).mono ?_⟩⟩
 rintro r V8 l8 ⟨p3,n3,d3,rfl,g3⟩
 refine ⟨_,_,_,rfl,fun V9 l9=>(c_Set_API (g3.le l9 fun _ _ g=>RIv.le g l9) (by have:=oC.len; omega) oC.sz (by decide)).mono ?_⟩
 rintro r V10 l10 ⟨p4,n4,d4,rfl,g4⟩
 exact ⟨_,_,_,rfl,fun V11 l11=>⟨_,_,_,rfl,g4.le l11 fun _ _ g=>RSp.le g l11⟩⟩
def SJoins (f:Nat) (op:Int):Prop:=∀{V:View} {p:OA} {n c:Nat} {q:OA} {m d:Nat} {A B:List Sp} {x y:Nat},Lst 8 RSp V p n A->Lst 8 RSp V q m B->Ok6 A x->Ok6 B y->x + y < 50 ->
 Acts prog f #[.slice p n c,.slice q m d] V fun r V'=>∃q m e,r=.tuple #[.slice q m e,.nilIface]/\Lst 8 RSp V' q m (combL op A B)
theorem c_span_Union:SJoins 13 1:=by
 intro V p n c q m d A B x y hA hB oA oB h
 refine vc_span_Union p n c q m d V _ fun V1 l1=>(c_span_two (hA.le l1 fun _ _ g=>RSp.le g l1) (hB.le l1 fun _ _ g=>RSp.le g l1) oA oB h c_Set_Union).mono ?_
 rintro r V2 l2 ⟨q,m,e,rfl,g⟩
 exact ⟨_,_,_,_,rfl,fun V3 l3=>⟨_,_,_,rfl,g.le l3 fun _ _ g=>RSp.le g l3⟩⟩
theorem c_span_Intersect:SJoins 14 2:=by
 intro V p n c q m d A B x y hA hB oA oB h
 refine vc_span_Intersect p n c q m d V _ fun V1 l1=>(c_span_two (hA.le l1 fun _ _ g=>RSp.le g l1) (hB.le l1 fun _ _ g=>RSp.le g l1) oA oB h c_Set_Intersect).mono ?_
 rintro r V2 l2 ⟨q,m,e,rfl,g⟩
 exact ⟨_,_,_,_,rfl,fun V3 l3=>⟨_,_,_,rfl,g.le l3 fun _ _ g=>RSp.le g l3⟩⟩
theorem c_span_Subtract:SJoins 16 3:=by
 intro V p n c q m d A B x y hA hB oA oB h
 refine vc_span_Subtract p n c q m d V _ fun V1 l1=>(c_span_two (hA.le l1 fun _ _ g=>RSp.le g l1) (hB.le l1 fun _ _ g=>RSp.le g l1) oA oB h c_Set_Subtract).mono ?_
 rintro r V2 l2 ⟨q,m,e,rfl,g⟩
 exact ⟨_,_,_,_,rfl,fun V3 l3=>⟨_,_,_,rfl,g.le l3 fun _ _ g=>RSp.le g l3⟩⟩
theorem c_span_Complement {V:View} {p:OA} {n c:Nat} {A:List Sp} {x:Nat} (hA:Lst 8 RSp V p n A) (oA:Ok6 A x) (h:x < 50) :
  Acts prog 15 #[.slice p n c] V fun r V'=>∃q m e,r=.tuple #[.slice q m e,.nilIface]/\Lst 8 RSp V' q m (cpl A):=by
 have oC:Ok6 (cpl A) (0 + x):=ok6_full.comb oA 3
 refine vc_span_Complement p n c V _ fun V1 l1=>(c_SetOf (hA.le l1 fun _ _ g=>RSp.le g l1) oA (by omega)).mono ?_
 rintro r V2 l2 ⟨p1,n1,d1,rfl,g1⟩
 refine ⟨_,_,_,_,rfl,(fun h=>nomatch h),fun _ V4 l4=>(c_Set_Complement (g1.le l4 fun _ _ g=>RIv.le g l4) oA h).mono ?_⟩
 rintro r V5 l5 ⟨p3,n3,d3,rfl,g3⟩
 refine ⟨_,_,_,rfl,fun V6 l6=>(c_Set_API (g3.le l6 fun _ _ g=>RIv.le g l6) (by have:=oC.len; omega) oC.sz (by decide)).mono ?_⟩
 rintro r V10 l10 ⟨p4,n4,d4,rfl,g4⟩
 exact ⟨_,_,_,rfl,fun V11 l11=>⟨_,_,_,rfl,g4.le l11 fun _ _ g=>RSp.le g l11⟩⟩
theorem c_SameAll {V:View} {p:OA} {n c:Nat} {q:OA} {m d:Nat} {A:List Sp} (hA:Lst 8 RSp V p n A) (hB:Lst 8 RSp V q m A) (hn:A.length<=1000) (hs:∀s ∈ A,s.sz 10000) :
  Acts prog 18 #[.slice p n c,.slice q m d] V fun r V'=>r=.bool true:=by
 obtain rfl:=hA.len
 obtain rfl:=hB.len
 refine vc_ref06_SameAll p _ c q _ d V _ ⟨fun h=>by simp at h,fun _=>⟨fun z V'=>∃j:Nat,z=(j:Int)/\j<=A.length,fun z=>A.length - z.toNat,⟨0,by and_intros <;> rfl,0,rfl,Nat.zero_le _⟩,?_⟩⟩
 rintro z V2 l2 ⟨j,rfl,jle⟩
 refine ⟨rfl,fun hlt=>?_,fun hlt V6 l6=>rfl⟩
 have hlt:(j:Int) < A.length:=of_decide_eq_true hlt
 have hi:j < A.length:=by omega
 obtain ⟨ad,ha,xs,-,hf,hat⟩:=(hA.le l2 fun _ _ g=>RSp.le g l2).at_ j hi
 obtain ⟨ad',ha',ys,-,hf',hat'⟩:=(hB.le l2 fun _ _ g=>RSp.le g l2).at_ j hi
 have hf0:=hf
 have hf0':=hf'
 obtain ⟨_,_,_,_,_,_,_,_,_,_,_,_,_,_,ex⟩:=sp_shape hf
 obtain ⟨_,_,_,_,_,_,_,_,_,_,_,_,_,_,ey⟩:=sp_shape hf'
 have ex:=congrArg Array.toList (Value.agg.inj ex)
 have ey:=congrArg Array.toList (Value.agg.inj ey)
 dsimp only at ex ey
 subst ex ey
 have w:i64.wrap ((j:Int) + 1)=((j + 1:Nat):Int):=by rw [i64w (by omega)]; rfl
 rw [Int.toNat_natCast,w]
 refine ⟨isSome_addr ha,⟨by omega,by omega⟩,_,_,_,_,_,_,_,_,_,_,_,_,_,_,_,_,ad,ha,hat 0 _ rfl,hat 1 _ rfl,hat 2 _ rfl,hat 3 _ rfl,hat 4 _ rfl,hat 5 _ rfl,hat 6 _ rfl,hat 7 _ rfl,isSome_addr ha',⟨by omega,by omega⟩,_,_,_,_,_,_,_,_,_,_,_,_,_,_,_,_,ad',ha',hat' 0 _ rfl,hat' 1 _ rfl,hat' 2 _ rfl,hat' 3 _ rfl,hat' 4 _ rfl,hat' 5 _ rfl,hat' 6 _ rfl,hat' 7 _ rfl,fun V3 l3=>(c_ref06_Same (hf0.le l3) (hf0'.le l3) (hs _ (List.getElem_mem hi)) (by decide)).mono ?_⟩
 rintro r V4 l4 rfl
 exact ⟨_,rfl,(fun h=>nomatch h),fun _=>⟨((j + 1:Nat):Int),by dsimp only; omega,by and_intros <;> rfl,j + 1,rfl,hi⟩⟩
end Go.Proofs.Tryz
/- A new block that is handed back; scene.New. -/
namespace Go.Proofs.Tryz
open Go.Eng Go.Big
/-- All that is there is hidden. -/
def hideAll (V:View):View:=⟨V.w,fun b=>b < V.w.heap.size,fun _=>False,fun _ h=>h,fun _ h=>h.elim⟩
/-- A block that is seen when all was hidden is new. -/
theorem acts_fresh {f:FuncId} {args:Array Value} {V:View} {o:Obj} (h:Acts prog f args (hideAll V) fun r V'=>∃bk,r=.pointer (some ⟨bk,0,none⟩)/\V'.blk bk o) :
  Acts prog f args V fun r V'=>∃bk,r=.pointer (some ⟨bk,0,none⟩)/\V.w.heap.size<=bk/\V'.blk bk o:=
 ⟨h.1,h.2.mono fun _ _ ⟨_,he,hx,bk,hr,hb⟩=>⟨_,he,⟨hx.size,fun b hb _=>hx.blk b hb (fun h=>h),hx.os,hx.tape,hx.out⟩,bk,hr,Nat.le_of_not_lt hb.1,fun hh=>hb.1 (V.hH bk hh),hb.2⟩⟩
theorem c_scene_New {V:View} {lp:OA} {ln lc:Nat} (hc:ln<=lc) :
  Acts prog 10 #[.slice lp ln lc] V fun r V'=>∃bk,r=.pointer (some ⟨bk,0,none⟩)/\V.w.heap.size<=bk/\V'.blk bk (.cells #[.slice lp (min ln 400) lc,.int .i64 0] 107 (0,0)):=by
 refine acts_fresh (vc_scene_New lp ln lc (hideAll V) _ ?_)
 have e:minI (ln:Int) 400=((min ln 400:Nat):Int):=by
  unfold minI
  simp only [Nat.min_def]
  split <;> split <;> omega
 rw [e,Int.toNat_natCast]
 have:=Nat.min_le_left ln 400
 exact ⟨⟨by omega,by omega⟩,fun V1 l1 bk hb=>⟨bk,rfl,hb⟩⟩
/-- What was seen is seen behind a new block that is hidden. -/
theorem le_fresh {V1 V2 V3:View} {bk:Nat} (l2:V1.Le V2) (hfr:V1.w.heap.size<=bk) (l3:(V2.hide bk).Le V3):V1.Le V3:=fun b o h=>l3 b o ⟨fun hh=>hh.elim (l2 b o h).1 fun e=>by
  have hlt:b < V1.w.heap.size:=by
   rcases Nat.lt_or_ge b V1.w.heap.size with h' | h'
   ·exact h'
   ·have:=h.2; rw [Array.getElem?_eq_none h'] at this; cases this
  have:=e.1
  omega,(l2 b o h).2⟩
end Go.Proofs.Tryz
/- Contracts: the tape's spans and fragments. -/
namespace Go.Proofs.Tryz
open Go.Eng Go.Big
theorem s_half:∀i:Fin 6,(mkRat ((i.1:Int) + 1) 2).num.sign=1/\Sz 10 (mkRat ((i.1:Int) + 1) 2):=by unfold Sz; decide +kernel
theorem rq0 (V:View):RQ V (.agg #[.bool false,.slice none 0 0,.slice none 0 0]) 0:=by have:=RQ.zero (V:=V); simpa using this
theorem sz0 (k:Nat) (hk:0 < k):Sz k (0:Rat):=⟨by show (0:Int).natAbs < _; exact Nat.lt_of_lt_of_le (by decide) (Nat.one_le_two_pow),Nat.one_lt_two_pow (by omega)⟩
theorem c_ref06_Full {V:View}:Acts prog 27 #[] V fun r V'=>RSs V' r ⟨0,0,true,true⟩:=
 vc_ref06_Full V _ fun V1 l1=>⟨_,_,_,_,_,_,_,_,_,_,_,_,_,_,rfl,rq0 _,rq0 _⟩
theorem rs_shape {V:View} {v:Value} {s:Sp} (h:RSs V v s):∃b p n c p' n' c' d q m e q' m' e',v=.agg #[.bool b,.slice p n c,.slice p' n' c',.bool d,.slice q m e,.slice q' m' e',.bool s.a,.bool s.b]:=by
 obtain ⟨_,_,_,_,_,_,_,_,_,_,_,_,_,_,e,-⟩:=h; exact ⟨_,_,_,_,_,_,_,_,_,_,_,_,_,_,e⟩
theorem c_S {V:View} {tb:Nat} {p:OA} {n c:Nat} {at_:Int} (hr:Rdl V p n) (hn:n<=400) (hw:TpAt V tb p n c at_) (hx:V.X tb) (h0:0<=at_) :
  Acts prog 87 #[.pointer (some ⟨tb,0,none⟩)] V fun r V'=>∃(s:Sp) (at':Int),RSs V' r s/\s.can/\s.emp=false/\s.sz 40/\0<=at'/\TpAt V' tb p n c at':=by
 refine vc_scene_Tape_S tb p n c at_ V _ hw hx fun V1 l1 bk1 e1 h1=>(c_Q (V:=V1.lend [bk1]) (hr.le fun b o h=>l1 b o h) hn e1 ⟨by simp,h1⟩ h0).mono ?_
 rintro r V2 l2 ⟨lo,at1,hq,sq,t1,hw1⟩
 have hq0:=hq
 obtain ⟨qa,qb,qc,qd,qe,qf,rfl⟩:=hq.shape
 refine ⟨_,_,_,_,_,_,_,rfl,_,_,_,_,hw1,fun V3 l3 bk7 e3 h3=>(c_Next (V:=V3.lend [bk7]) 6 (hr.le fun b o h=>l3 b o (l2 b o (l1 b o h))) hn e3 ⟨by simp,h3⟩ t1 (by omega) (by omega)).mono ?_⟩
 rintro r V4 l4 ⟨x,at2,rfl,x0,x1,t2,hw2⟩
 obtain ⟨i,rfl⟩:∃i:Nat,x=i:=⟨x.toNat,by omega⟩
 obtain ⟨z1,z2⟩:=s_half ⟨i,by omega⟩
 dsimp only at z1 z2
 have w1:i64.wrap (1 + (i:Int))=(i:Int) + 1:=by rw [i64w (by omega)]; omega
 refine ⟨_,rfl,_,_,_,_,hw2,fun V5 l5=>?_⟩
 rw [w1]
 refine (c_num_Part ((i:Int) + 1) 2 (by omega) (by omega) (by omega) (by omega)).mono ?_
 generalize mkRat ((i:Int) + 1) 2=q at *
 rintro r V6 l6 gp
 have gp0:=gp
 obtain ⟨_,_,_,_,_,_,rfl⟩:=gp.shape
 have l27:∀{V7:View},V6.Le V7->V2.Le V7:=fun l7 b o h=>l7 b o (l6 b o (l5 b o (l4 b o (l3 b o h))))
 refine ⟨_,_,_,_,_,_,_,rfl,fun V7 l7=>(c_num_Plus (hq0.le (l27 l7)) (gp0.le l7) sq z2 (by omega)).mono ?_⟩
 rintro r V8 l8 gh
 have gh0:=gh
 obtain ⟨ga,gb,gc,gd,ge,gf',rfl⟩:=gh.shape
 have sh:Sz 21 (lo + q):=sq.add z2
 have l02:∀{V9:View},V8.Le V9->V.Le V9:=fun l9 b o h=>l9 b o (l8 b o (l7 b o (l6 b o (l5 b o (l4 b o (l3 b o (l2 b o (l1 b o h))))))))
 refine ⟨_,_,_,_,_,_,_,rfl,fun V9 l9 bk17 e9 h9=>(c_Next (V:=V9.lend [bk17]) 8 (hr.le fun b o h=>l02 l9 b o h) hn e9 ⟨by simp,h9⟩ t2 (by omega) (by omega)).mono ?_⟩
 rintro r V10 l10 ⟨y,at3,rfl,y0,y1,t3,hw3⟩
 have l8_10:∀{V11:View},V10.shut.Le V11->V8.Le V11:=fun l11 b o h=>l11 b o (l10 b o (l9 b o h))
 have l2_10:∀{V11:View},V10.shut.Le V11->V2.Le V11:=fun l11=>(l27 l7).trans (l8.trans (l8_10 l11))
 have full:∀(V11 W:View),V10.shut.Le V11->V11.Le W->∀at4,0<=at4->TpAt W tb p n c at4->∃(s:Sp) (at':Int),RSs W (.agg #[.bool (decide (lo.num < 0)),.slice qa qb qc,.slice qd qe qf,.bool (decide ((lo + q).num < 0)),.slice ga gb gc,.slice gd ge gf',.bool false,.bool false]) s/\s.can/\s.emp=false/\s.sz 40/\0<=at'/\TpAt W tb p n c at':=fun V11 W l11 lw at4 t4 e4=>
  ⟨⟨lo,lo + q,false,false⟩,at4,⟨_,_,_,_,_,_,_,_,_,_,_,_,_,_,rfl,hq0.le ((l2_10 l11).trans lw),gh0.le ((l8_10 l11).trans lw)⟩,⟨(fun h=>nomatch h),(fun h=>nomatch h)⟩,by
   have e:cmpQ lo (lo + q)=- q.num.sign:=by
    rw [cmpQ_swap]
    unfold cmpQ
    rw [show lo + q - lo=q from by grind]
   unfold Sp.emp
   dsimp only
   rw [e,z1]
   rfl,⟨Sz.mono sq (by omega),Sz.mono sh (by omega)⟩,t4,e4⟩
 refine ⟨_,rfl,_,_,_,_,hw3,fun _ V11 l11 e11=>?_,fun _=>⟨fun _ V12 l12 e12=>?_,fun _=>⟨fun _ V13 l13 bk21 e13 h13=>(c_Next (V:=V13.lend [bk21]) 4 (hr.le fun b o h=>l13 b o (l10 b o (l02 l9 b o h))) hn e13 ⟨by simp,h13⟩ t3 (by omega) (by omega)).mono ?_,fun _ V19 l19 e19=>full _ _ l19 (View.Le.refl _) at3 t3 e19⟩⟩⟩
 ·exact ⟨⟨0,lo + q,true,false⟩,at3,⟨_,_,_,_,_,_,_,_,_,_,_,_,_,_,rfl,rq0 _,gh0.le (l8_10 l11)⟩,⟨fun _=>rfl,(fun h=>nomatch h)⟩,rfl,⟨sz0 _ (by omega),Sz.mono sh (by omega)⟩,t3,e11⟩
 ·exact ⟨⟨lo,0,false,true⟩,at3,⟨_,_,_,_,_,_,_,_,_,_,_,_,_,_,rfl,hq0.le (l2_10 l12),rq0 _⟩,⟨(fun h=>nomatch h),fun _=>rfl⟩,rfl,⟨Sz.mono sq (by omega),sz0 _ (by omega)⟩,t3,e12⟩
 ·rintro r V14 l14 ⟨z,at4,rfl,-,-,t4,hw4⟩
  refine ⟨_,rfl,_,_,_,_,hw4,fun _ V15 l15=>c_ref06_Full.mono ?_,fun _ V18 l18 e18=>full _ _ l13 (fun b o h=>l18 b o (l14 b o h)) at4 t4 e18⟩
  rintro r V16 l16 gf
  have gf0:=gf
  obtain ⟨_,_,_,_,_,_,_,_,_,_,_,_,_,_,rfl⟩:=rs_shape gf
  exact ⟨_,_,_,_,_,_,_,_,_,_,_,_,_,_,_,_,rfl,fun V17 l17 e17=>⟨⟨0,0,true,true⟩,at4,gf0.le l17,⟨fun _=>rfl,fun _=>rfl⟩,rfl,⟨sz0 _ (by omega),sz0 _ (by omega)⟩,t4,e17⟩⟩
end Go.Proofs.Tryz
/- By program: the conditions of the functions, from their loaded code. -/
namespace Go.Proofs.Tryz
open Go.Eng
open Go.Value renaming int→I,pointer→P,slice→S,agg→A,bool→B,tuple→T
open Go.IntKind renaming i64→J,u64→U,u32→W
set_option maxRecDepth 100000
theorem vc_law06_made (a:Nat) (e:OA) (f g:Nat) (i:Int) (V:View) (R:VR) (hw100000:V.w.heap[a]?=some (.cells #[S e f g,I J i] 107 (0,0))) (hx100000:V.X a) (h:(∀d,V.Le d->∀b:Nat,(d.w.heap[b]?=some (.cells #[S e f g,I J i] 107 (0,0)))->(d.H b)->Acts prog 25 #[P (some ⟨b,0,none⟩),I J 4] (d.lend [b]) fun z l=>∃m n o,z=S m n o/\∃p q r,∃s,l.w.heap[b]?=some (.cells #[S p q r,I J s] 107 (0,0))/\(∀t,l.shut.Le t->Acts prog 20 #[I J 1,S m n o,S none 0 0] t fun a0 a1=>∃u x y,a0=S u x y/\(∀k,a1.Le k->k.w.heap[a]?=some (.cells #[S p q r,I J s] 107 (0,0))->R (S u x y) k)))):
 Acts prog 12 #[P (some ⟨a,0,none⟩)] V R:=
 fn_does (LF:=LF0) (RF:=[1000010]) (β0:=(upd1 (fun _=>0) 100000 a)) tab_ok mixed [] [] func12 (by kernel_rfl) [(0,.c (.ptr 100000 0))] [(100000,⟨.lit [.v (S e f g),.v (I J i)],107⟩)] (by kernel_rfl) ⟨⟨hw100000,hx100000⟩,trivial,trivial⟩ h (by kernel_rfl)
theorem vc_law06_unit (b c:Int) (V:View) (R:VR) (h:(Ca V 19 #[I J b] fun a9 b0=>∃d,∃e f g,∃i k l,a9=A #[B d,S e f g,S i k l]/\(Ca b0 28 #[A #[B d,S e f g,S i k l]] fun b1 b2=>∃m,∃n o p,∃q r s,b1=A #[B m,S n o p,S q r s]/\(Ca b2 19 #[I J c] fun b3 b4=>∃t,∃u w x,∃y z a0,b3=A #[B t,S u w x,S y z a0]/\(Ca b4 28 #[A #[B t,S u w x,S y z a0]] fun b5 b6=>∃a1,∃a2 a3 a4,∃a5 a6 a7,b5=A #[B a1,S a2 a3 a4,S a5 a6 a7]/\(∀a,b6.Le a->∀a8:Nat,(a.blk a8 (.cells #[B m,S n o p,S q r s,B a1,S a2 a3 a4,S a5 a6 a7,B false,B false] 77 (0,0)))->R (S (some ⟨a8,0,none⟩) 1 1) a)))))):
 Acts prog 67 #[I J b,I J c] V R:=
 fd (LF:=LF0) (RF:=[1000010]) [] [] func67 h
theorem vc_law06_known (V:View) (R:VR) (h:(Ca V 67 #[I J 0,I J 1] fun a5 a6=>∃e f g,a5=S e f g/\(Ca a6 67 #[I J 1,I J 2] fun a7 a8=>∃i k l,a7=S i k l/\(Ca a8 13 #[S e f g,S i k l] fun a9 b0=>∃m n o,∃a,a9=T #[S m n o,a]/\(Ca b0 67 #[I J 0,I J 1] fun b1 b2=>∃p q r,b1=S p q r/\(Ca b2 67 #[I J 1,I J 2] fun b3 b4=>∃s t u,b3=S s t u/\(Ca b4 14 #[S p q r,S s t u] fun b5 c=>∃b6 w b7,∃b,b5=T #[S b6 w b7,b]/\(IsIface a)/\(((isNilI a)=true->(IsIface b)/\(((isNilI b)=true->(Ca c 67 #[I J 0,I J 2] fun b8 b9=>∃x y z,b8=S x y z/\(Ca b9 18 #[S m n o,S x y z] fun c0 a0=>∃d,c0=B d/\((d=true->(Rt a0 R (B ((w:Int) == (0:Int)))))/\(d=false->(Rt a0 R (B false)))))))/\((isNilI b)=false->(Rt c R (B false)))))/\((isNilI a)=false->(Rt c R (B false))))))))))):
 Acts prog 17 #[] V R:=
 fd (LF:=LF0) (RF:=[1000010]) [] [] func17 h
end Go.Proofs.Tryz
/- Law 06: SpanAlgebra. -/
namespace Go.Proofs.Tryz
open Go.Eng Go.Big
/-- Any row as it grows. -/
structure GR {α:Type} (sz:Nat) (R:View->Value->α->Prop) (V:View) (n c:Nat) (vs:List Value) (l:List α):Prop where
 len:n=l.length
 le:n<=c
 cap:c * sz<=vs.length
 row:Row sz R V vs l
theorem GR.nil {α:Type} {sz:Nat} {R:View->Value->α->Prop} {V:View}:GR sz R V 0 0 [] []:=⟨rfl,Nat.le_refl _,by simp,Row.nil⟩
theorem GR.mono {α:Type} {sz:Nat} {R:View->Value->α->Prop} {V V':View} {n c:Nat} {vs:List Value} {l:List α} (h:GR sz R V n c vs l) (m:∀v a,R V v a->R V' v a):GR sz R V' n c vs l:=⟨h.len,h.le,h.cap,h.row.le m⟩
theorem GR.snoc {α:Type} {sz:Nat} {R:View->Value->α->Prop} {V:View} {n c:Nat} {vs:List Value} {l:List α} (h:GR sz R V n c vs l) {xs:List Value} {a:α} (hx:xs.length=sz) (ha:R V (.agg xs.toArray) a) (h0:0 < sz) {sp:List Value} {c':Nat} (h1:n + 1<=c') (h2:c' * sz<=(n + 1) * sz + sp.length) :
  GR sz R V (n + 1) c' (vs.take (n * sz)++xs++sp) (l++[a]):=by
 have hn:=h.len
 have hc:=h.cap
 have hl:n * sz<=c * sz:=Nat.mul_le_mul_right _ h.le
 refine ⟨by rw [List.length_append,hn]; rfl,h1,?_,?_⟩
 ·have ht:(vs.take (n * sz)).length=n * sz:=by rw [List.length_take]; omega
  rw [List.length_append,List.length_append,ht,hx]
  rw [Nat.succ_mul] at h2
  exact h2
 ·have:=h.row.snoc (sp:=sp) hx ha h0
  rw [← hn] at this
  exact this
theorem one8s {b:Bool} {p:OA} {n c:Nat} {p':OA} {n' c':Nat} {d:Bool} {q:OA} {m e:Nat} {q':OA} {m' e':Nat} {x y:Bool}:∀v ∈ ([.bool b,.slice p n c,.slice p' n' c',.bool d,.slice q m e,.slice q' m' e',.bool x,.bool y]:List Value),v.oneCell'=true:=by
 intro v hm
 simp only [List.mem_cons,List.not_mem_nil,or_false] at hm
 rcases hm with rfl | rfl | rfl | rfl | rfl | rfl | rfl | rfl <;> rfl
theorem c_Ss {V:View} {tb:Nat} {p:OA} {n c:Nat} {at_:Int} (k:Int) (hr:Rdl V p n) (hn:n<=400) (hw:TpAt V tb p n c at_) (hx:V.X tb) (h0:0<=at_) (hk:0<=k) (hk2:k<=100) :
  Acts prog 25 #[.pointer (some ⟨tb,0,none⟩),.int .i64 k] V fun r V'=>∃(q:OA) (m e:Nat) (l:List Sp) (at':Int),r=.slice q m e/\RSl V' q m l/\(l.length:Int)<=k/\(∀s ∈ l,s.good/\s.sz 40)/\0<=at'/\TpAt V' tb p n c at':=by
 have w:i64.wrap (k + 1)=k + 1:=i64w (by omega)
 refine vc_scene_Tape_Ss tb p n c at_ k V _ hw hx fun V1 l1 bk1 e1 h1=>?_
 rw [w]
 refine (c_Next (V:=V1.lend [bk1]) (k + 1) (hr.le fun b o h=>l1 b o h) hn e1 ⟨by simp,h1⟩ h0 (by omega) (by omega)).mono ?_
 rintro r V2 l2 ⟨x,at1,rfl,x0,x1,t1,hw1⟩
 refine ⟨x,rfl,_,_,_,_,hw1,fun z V'=>∃l:List Sp,GR 8 RSs V' z.1 z.2.1 z.2.2.1 l/\0<=z.2.2.2.1/\(l.length:Int) + z.2.2.2.1<=k/\(∀s ∈ l,s.good/\s.sz 40)/\z.2.2.2.2.1=p/\z.2.2.2.2.2.1=n/\z.2.2.2.2.2.2.1=c/\0<=z.2.2.2.2.2.2.2,
  fun z=>z.2.2.2.1.toNat,⟨(0,0,[],x,p,n,c,at1),by and_intros <;> rfl,[],GR.nil,x0,by show ((0:Nat):Int) + x<=k; omega,fun s h=>(by cases h),rfl,rfl,rfl,t1⟩,?_⟩
 rintro ⟨z1,z2,vs,x',p',n',c',at2⟩ V3 l3 ⟨l,hs,y0,y1,hg,e1,e2,e3,t2⟩
 dsimp only at hs y0 y1 e1 e2 e3 t2
 subst e1 e2 e3
 have sl:=hs.len
 refine ⟨rfl,fun hlt V4 l4 bk9 e9 h9=>?_,fun hlt V6 l6 bk23 e6 hb=>?_⟩
 ·have hlt:x' > 0:=of_decide_eq_true hlt
  refine (c_S (V:=V4.lend [bk9]) (hr.le fun b o h=>l4 b o (l3 b o (l2 b o (l1 b o h)))) hn e9 ⟨by simp,h9⟩ t2).mono ?_
  rintro r V5 l5 ⟨s,at3,hs5,cn,em,sz,t3,hw5⟩
  have hs50:=hs5
  obtain ⟨_,_,_,_,_,_,_,_,_,_,_,_,_,_,rfl⟩:=rs_shape hs5
  dsimp only
  refine ⟨_,_,_,_,_,_,_,_,_,_,_,_,_,_,_,_,rfl,_,_,_,_,hw5,by omega,hs.le,hs.cap,rfl,one8s,fun sp c2 h1 h2=>⟨(z1 + 1,c2,_,x' - 1,p',n',c',at3),by dsimp only; omega,by and_intros <;> first | rfl | exact i64w (by omega),l++[s],
   (hs.mono (V':=V5.shut) fun _ _ g=>RSs.le g fun b o h=>l5 b o (l4 b o h)).snoc rfl (hs50.le (le_shut' _)) (by decide) h1 h2,by dsimp only; omega,by rw [List.length_append]; simp; omega,fun t ht=>?_,rfl,rfl,rfl,t3⟩⟩
  rcases List.mem_append.1 ht with ht | ht
  ·exact hg t ht
  ·rw [List.mem_singleton.1 ht]; exact ⟨⟨cn,em⟩,sz⟩
 ·subst sl
  exact ⟨_,_,_,l,at2,rfl,lst_rsl (Lst.of_mrow hb (hs.row.le fun _ _ g=>RSs.le g l6) (by decide) hs.le),by omega,hg,t2,e6⟩
theorem sz_up {s:Sp} (h:s.sz 40):s.sz 10000:=⟨h.1.mono (by decide),h.2.mono (by decide)⟩
theorem c_made {V:View} {tb:Nat} {p:OA} {n c:Nat} {at_:Int} (hr:Rdl V p n) (hn:n<=400) (hw:TpAt V tb p n c at_) (hx:V.X tb) (h0:0<=at_) :
  Acts prog 12 #[.pointer (some ⟨tb,0,none⟩)] V fun r V'=>∃(q:OA) (m e:Nat) (l:List Sp) (at':Int),r=.slice q m e/\RSl V' q m l/\Ok6 l 8/\(∀s ∈ l,s.sz 40)/\0<=at'/\TpAt V' tb p n c at':=by
 refine vc_law06_made tb p n c at_ V _ hw hx fun V1 l1 bk1 e1 h1=>(c_Ss (V:=V1.lend [bk1]) 4 (hr.le fun b o h=>l1 b o h) hn e1 ⟨by simp,h1⟩ h0 (by decide) (by decide)).mono ?_
 rintro r V2 l2 ⟨q,m,e,l,at1,rfl,hl,ll,hg,t1,hw1⟩
 refine ⟨_,_,_,rfl,_,_,_,_,hw1,fun V3 l3=>(c_ref06_Combine (op:=1) (la':=l) (lb':=[]) (hl.le fun b o h=>l3 b o h) ⟨rfl,fun i hi=>absurd hi (Nat.not_lt_zero i)⟩ (by simp; omega) (fun s h=>(hg s h).2) (fun s h=>by cases h) (by decide)).mono ?_⟩
 rintro r V4 l4 ⟨q',m',e',rfl,g⟩
 have hsz:∀s ∈ combL 1 l [],s.sz 40:=comb_sz (by decide) (fun s h=>(hg s h).2) (fun s h=>by cases h)
 have f1:=comb_fe 1 l []
 have f2:=fe_le l
 have f3:fe []=0:=rfl
 exact ⟨_,_,_,rfl,fun V5 l5 hw5=>⟨_,_,_,combL 1 l [],at1,rfl,g.le l5,⟨comb_reg _ _ _,fun s h=>sz_up (hsz s h),by omega,by have:=comb_len 1 l []; omega⟩,hsz,t1,hw5⟩⟩
/-- The span from a to b. -/
def spU (a b:Int):Sp:=⟨(a:Rat),(b:Rat),false,false⟩
theorem c_unit {V:View} (a b:Int) (ha:-100<=a/\a<=100) (hb:-100<=b/\b<=100) (sa:Sz 10 (a:Rat)) (sb:Sz 10 (b:Rat)):Acts prog 67 #[.int .i64 a,.int .i64 b] V fun r V'=>∃q m e,r=.slice q m e/\Lst 8 RSp V' q m [spU a b]:=by
 refine vc_law06_unit a b V _ fun V1 l1=>(c_num_Of a (by omega) (by omega)).mono ?_
 rintro r V2 l2 g1
 have g10:=g1
 obtain ⟨_,_,_,_,_,_,rfl⟩:=g1.shape
 refine ⟨_,_,_,_,_,_,_,rfl,fun V3 l3=>(c_ref01_ToQ (g10.le l3) sa (by decide)).mono ?_⟩
 rintro r V4 l4 g2
 have g20:=g2
 obtain ⟨_,_,_,_,_,_,_,rfl⟩:=g2.shape
 refine ⟨_,_,_,_,_,_,_,rfl,fun V5 l5=>(c_num_Of b (by omega) (by omega)).mono ?_⟩
 rintro r V6 l6 g3
 have g30:=g3
 obtain ⟨_,_,_,_,_,_,rfl⟩:=g3.shape
 refine ⟨_,_,_,_,_,_,_,rfl,fun V7 l7=>(c_ref01_ToQ (g30.le l7) sb (by decide)).mono ?_⟩
 rintro r V8 l8 g4
 have g40:=g4
 obtain ⟨_,_,_,_,_,_,_,rfl⟩:=g4.shape
 refine ⟨_,_,_,_,_,_,_,rfl,fun V9 l9 bk hbk=>⟨_,_,_,rfl,Lst.of_row (vs:=[.bool _,.slice _ _ _,.slice _ _ _,.bool _,.slice _ _ _,.slice _ _ _,.bool false,.bool false]) hbk (row_one rfl ?_)⟩⟩
 exact ⟨_,_,_,_,_,_,_,_,_,_,_,_,_,_,rfl,⟨(fun h=>nomatch h),fun _=>g20.le (l5.trans (l6.trans (l7.trans (l8.trans l9))))⟩,⟨(fun h=>nomatch h),fun _=>g40.le l9⟩⟩
theorem ok6_one {a b:Int} (h:(a:Rat) < (b:Rat)) (sa:Sz 10 (a:Rat)) (sb:Sz 10 (b:Rat)):Ok6 [spU a b] 2:=
 ⟨⟨fun s hs=>by rw [List.mem_singleton.1 hs]; exact ⟨⟨(fun h=>nomatch h),(fun h=>nomatch h)⟩,by rw [Sp.emp_iff]; exact .inr (.inr h)⟩,List.pairwise_singleton _ _⟩,fun s hs=>by rw [List.mem_singleton.1 hs]; exact ⟨sa.mono (by decide),sb.mono (by decide)⟩,fe_le _,by simp⟩
theorem uni_012:combL 1 [spU 0 1] [spU 1 2]=[spU 0 2]:=by
 refine reg_eq (endsL ([spU 0 1]++[spU 1 2])++[1]) (comb_reg _ _ _) (ok6_one (by decide) (sz_int (by decide) (by decide)) (sz_int (by decide) (by decide))).rg fun t ht=>?_
 simp only [List.mem_append,not_or,List.mem_singleton] at ht
 rw [comb_inB _ _ _ ht.1]
 have h1:=ht.2
 have e0:((0:Int):Rat)=0:=rfl
 have e1:((1:Int):Rat)=1:=rfl
 have e2:((2:Int):Rat)=2:=rfl
 unfold inB spU Sp.innB opB
 rw [e0,e1,e2]
 simp
 grind
theorem int_012:combL 2 [spU 0 1] [spU 1 2]=[]:=by
 refine reg_eq (endsL ([spU 0 1]++[spU 1 2])++[1]) (comb_reg _ _ _) ⟨fun s h=>(by cases h),List.Pairwise.nil⟩ fun t ht=>?_
 simp only [List.mem_append,not_or,List.mem_singleton] at ht
 rw [comb_inB _ _ _ ht.1]
 have h1:=ht.2
 have e0:((0:Int):Rat)=0:=rfl
 have e1:((1:Int):Rat)=1:=rfl
 have e2:((2:Int):Rat)=2:=rfl
 unfold inB spU Sp.innB opB
 rw [e0,e1,e2]
 simp
 grind
theorem c_known6 {V:View}:Acts prog 17 #[] V fun r V'=>r=.bool true:=by
 have s0:Sz 10 ((0:Int):Rat):=sz_int (by decide) (by decide)
 have s1:Sz 10 ((1:Int):Rat):=sz_int (by decide) (by decide)
 have s2:Sz 10 ((2:Int):Rat):=sz_int (by decide) (by decide)
 have o01:Ok6 [spU 0 1] 2:=ok6_one (by decide) s0 s1
 have o12:Ok6 [spU 1 2] 2:=ok6_one (by decide) s1 s2
 have o02:Ok6 [spU 0 2] 2:=ok6_one (by decide) s0 s2
 refine vc_law06_known V _ fun V1 l1=>(c_unit 0 1 (by decide) (by decide) s0 s1).mono ?_
 rintro r V2 l2 ⟨p1,n1,c1,rfl,g1⟩
 refine ⟨_,_,_,rfl,fun V3 l3=>(c_unit 1 2 (by decide) (by decide) s1 s2).mono ?_⟩
 rintro r V4 l4 ⟨p2,n2,c2,rfl,g2⟩
 have L3:=l3.trans l4
 refine ⟨_,_,_,rfl,fun V5 l5=>(c_span_Union (g1.le (L3.trans l5) fun _ _ g=>RSp.le g (L3.trans l5)) (g2.le l5 fun _ _ g=>RSp.le g l5) o01 o12 (by decide)).mono ?_⟩
 rintro r V6 l6 ⟨p3,n3,c3,rfl,g3⟩
 refine ⟨_,_,_,_,rfl,fun V7 l7=>(c_unit 0 1 (by decide) (by decide) s0 s1).mono ?_⟩
 rintro r V8 l8 ⟨p4,n4,c4,rfl,g4⟩
 refine ⟨_,_,_,rfl,fun V9 l9=>(c_unit 1 2 (by decide) (by decide) s1 s2).mono ?_⟩
 rintro r V10 l10 ⟨p5,n5,c5,rfl,g5⟩
 have L9:=l9.trans l10
 refine ⟨_,_,_,rfl,fun V11 l11=>(c_span_Intersect (g4.le (L9.trans l11) fun _ _ g=>RSp.le g (L9.trans l11)) (g5.le l11 fun _ _ g=>RSp.le g l11) o01 o12 (by decide)).mono ?_⟩
 rintro r V12 l12 ⟨p6,n6,c6,rfl,g6⟩
 rw [uni_012] at g3
 rw [int_012] at g6
 have n60:n6=0:=g6.len
 subst n60
 refine ⟨_,_,_,_,rfl,.inl rfl,fun _=>⟨.inl rfl,fun _ V13 l13=>(c_unit 0 2 (by decide) (by decide) s0 s2).mono ?_,(fun h=>nomatch h)⟩,(fun h=>nomatch h)⟩
 rintro r V14 l14 ⟨p7,n7,c7,rfl,g7⟩
 have L7:=l7.trans (l8.trans (l9.trans (l10.trans (l11.trans (l12.trans (l13.trans l14))))))
 refine ⟨_,_,_,rfl,fun V15 l15=>(c_SameAll (g3.le (L7.trans l15) fun _ _ g=>RSp.le g (L7.trans l15)) (g7.le l15 fun _ _ g=>RSp.le g l15) (by decide) o02.sz).mono ?_⟩
 rintro r V16 l16 rfl
 exact ⟨_,rfl,fun _ V17 l17=>rfl,(fun h=>nomatch h)⟩
end Go.Proofs.Tryz
/- Law 06: SpanAlgebra (printed by mkalg.py). -/
namespace Go.Proofs.Tryz
open Go.Eng Go.Big
theorem up {V V':View} {p:OA} {n:Nat} {l:List Sp} (h:Lst 8 RSp V p n l) (e:V.Le V'):Lst 8 RSp V' p n l:=h.le e fun _ _ g=>RSp.le g e
end Go.Proofs.Tryz
/- By program: the conditions of the functions, from their loaded code. -/
namespace Go.Proofs.Tryz
open Go.Eng
set_option maxRecDepth 100000
end Go.Proofs.Tryz
/- Contracts: Join, Full. -/
namespace Go.Proofs.Tryz
open Go.Eng Go.Big
theorem RSs.full (V:View):RSs V (.agg #[.bool false,.slice none 0 0,.slice none 0 0,.bool false,.slice none 0 0,.slice none 0 0,.bool true,.bool true]) fullS:=
 ⟨_,_,_,_,_,_,_,_,_,_,_,_,_,_,rfl,RQ.zero,RQ.zero⟩
end Go.Proofs.Tryz
/- By program: the conditions of the functions, from their loaded code. -/
namespace Go.Proofs.Tryz
open Go.Eng
open Go.Value renaming int→I,pointer→P,slice→S,agg→A,bool→B,tuple→T
open Go.IntKind renaming i64→J,u64→U,u32→W
set_option maxRecDepth 100000
theorem vc_geo_Iv_Inside (m n:Int) (o:OA) (e f:Int) (g:OA) (i a:Bool) (b c:Int) (d:OA) (V:View) (R:VR) (h:((i=true->((a=true->(Rt V R (B true)))/\(a=false->(Ca V 129 #[A #[I J e,I J f,P g],A #[I J b,I J c,P d]] fun x y=>∃q,x=I J q/\(Rt y R (B (decide (q > (0:Int)))))))))/\(i=false->(Ca V 129 #[A #[I J m,I J n,P o],A #[I J b,I J c,P d]] fun z k=>∃l,z=I J l/\(((decide (l < (0:Int)))=true->((a=true->(Rt k R (B true)))/\(a=false->(Ca k 129 #[A #[I J e,I J f,P g],A #[I J b,I J c,P d]] fun a0 a1=>∃t,a0=I J t/\(Rt a1 R (B (decide (t > (0:Int)))))))))/\((decide (l < (0:Int)))=false->(Rt k R (B false)))))))):
 Acts prog 94 #[A #[I J m,I J n,P o,I J e,I J f,P g,B i,B a],A #[I J b,I J c,P d]] V R:=
 fd (LF:=LF0) (RF:=[1000010]) [] [] func94 h
theorem vc_span_Class (a1:OA) (a2 a3:Nat) (a4:Bool) (a5:OA) (a6 a7:Nat) (a8:OA) (a9 b0:Nat) (V:View) (R:VR) (h:(Ca V 63 #[S a1 a2 a3] fun c3 l=>∃f d m,∃n,c3=T #[S f d m,B n]/\(((!n)=true->(∃b1,(∃b2,(some ⟨1,0,none⟩:OA)=some b2/\l.at b2 (b1))/\(Rt l R (T #[I J 0,b1]))))/\((!n)=false->(Ca l 93 #[A #[B a4,S a5 a6 a7,S a8 a9 b0]] fun c4 b4=>∃g,∃i,∃k,c4=A #[I J g,I J i,P k]/\(∃(o:Int->VP) (b5:Int->Nat),(∃b6:Int,(s5 0 f d m (d:Int) (((0:Int)=b6)/\sm g/\sm i/\sm k))/\o b6 b4)/\∀(e:Int) (a:View),b4.Le a->o e a->(true=true/\(((decide (e < (d:Int)))=true->(f.isSome=true)/\(0<=e/\e < (d:Int))/\(∃p,∃q,∃r,∃s,∃t,∃u,∃w,∃x,∃b,addrAdd f (e.toNat * 8)=some b/\a.at (b.add 0) (I J p)/\a.at (b.add 1) (I J q)/\a.at (b.add 2) (P r)/\a.at (b.add 3) (I J s)/\a.at (b.add 4) (I J t)/\a.at (b.add 5) (P u)/\a.at (b.add 6) (B w)/\a.at (b.add 7) (B x)/\(Ca a 94 #[A #[I J p,I J q,P r,I J s,I J t,P u,B w,B x],A #[I J g,I J i,P k]] fun c5 b7=>∃y,c5=B y/\((y=true->(Rt b7 R (T #[I J 2,.nilIface])))/\(y=false->(Ca b7 95 #[A #[I J p,I J q,P r,I J s,I J t,P u,B w,B x],A #[I J g,I J i,P k]] fun c6 b9=>∃z,c6=B z/\((z=true->(Rt b9 R (T #[I J 1,.nilIface])))/\(z=false->(∃a0:Int,b5 a0 < b5 e/\(s5 0 f d m (d:Int) (((J.wrap (e + (1:Int)))=a0)/\sm g/\sm i/\sm k))/\o a0 b9)))))))))/\((decide (e < (d:Int)))=false->(Rt a R (T #[I J 0,.nilIface]))))))))))):
 Acts prog 32 #[S a1 a2 a3,A #[B a4,S a5 a6 a7,S a8 a9 b0]] V R:=
 fd (LF:=LF0) (RF:=[1000010]) [(6,⟨Int,false,[8,21,22],[8],fun c2=>[(23,.c (.v (I J c2)))],fun c2=>[]⟩)] [] func32 h
theorem vc_law06_class (a:Bool) (V:View) (R:VR) (h:((a=true->(Rt V R (I J 2)))/\(a=false->(Rt V R (I J 0))))):
 Acts prog 33 #[B a] V R:=
 fd (LF:=LF0) (RF:=[1000010]) [] [] func33 h
theorem vc_law06_SpanPoints (d6:OA) (d7 d8:Nat) (V:View) (R:VR) (h:(∀b4,V.Le b4->Acts prog 10 #[S d6 d7 d8] b4 fun r2 d9=>∃a3:Nat,∃e0 e1 e2,∃e3,r2=P (some ⟨a3,0,none⟩)/\b4.w.heap.size<=a3/\d9.blk a3 (.cells #[S e0 e1 e2,I J e3] 107 (0,0))/\(∀a4:View,(d9.hide a3).Le a4->∀s:Nat,(a4.w.heap[s]?=some (.cells #[S e0 e1 e2,I J e3] 107 (0,0)))->(a4.H s)->Acts prog 12 #[P (some ⟨s,0,none⟩)] (a4.lend [s]) fun r3 e4=>∃e5 e6 e7,r3=S e5 e6 e7/\∃e8 e9 f0,∃f1,e4.w.heap[s]?=some (.cells #[S e8 e9 f0,I J f1] 107 (0,0))/\(∀f2,e4.shut.Le f2->Acts prog 11 #[S e5 e6 e7] f2 fun r4 r5=>∃p q r,r4=S p q r/\(∀a5,r5.Le a5->∀t:Nat,(a5.w.heap[t]?=some (.cells #[S e8 e9 f0,I J f1] 107 (0,0)))->(a5.H t)->Acts prog 12 #[P (some ⟨t,0,none⟩)] (a5.lend [t]) fun r6 f3=>∃f4 f5 f6,r6=S f4 f5 f6/\∃f7 f8 f9,∃g0,f3.w.heap[t]?=some (.cells #[S f7 f8 f9,I J g0] 107 (0,0))/\(∀g1,f3.shut.Le g1->Acts prog 11 #[S f4 f5 f6] g1 fun r7 r8=>∃u x y,r7=S u x y/\(∀a6,r8.Le a6->∀z:Nat,(a6.w.heap[z]?=some (.cells #[S f7 f8 f9,I J g0] 107 (0,0)))->(a6.H z)->Acts prog 29 #[P (some ⟨z,0,none⟩)] (a6.lend [z]) fun r9 g2=>∃g3,∃g4 g5 g6,∃g7 g8 g9,r9=A #[B g3,S g4 g5 g6,S g7 g8 g9]/\∃i0 i1 i2,∃i3,g2.w.heap[z]?=some (.cells #[S i0 i1 i2,I J i3] 107 (0,0))/\(∀a7,g2.shut.Le a7->∀a0:Nat,(a7.w.heap[a0]?=some (.cells #[S i0 i1 i2,I J i3] 107 (0,0)))->(a7.H a0)->Acts prog 31 #[P (some ⟨a0,0,none⟩),I J 7] (a7.lend [a0]) fun t0 i4=>∃i5,t0=I J i5/\∃t1 t2 t3,∃t4,i4.w.heap[a0]?=some (.cells #[S t1 t2 t3,I J t4] 107 (0,0))/\(∀i6,i4.shut.Le i6->Acts prog 30 #[I J i5,I J 7] i6 fun t5 t6=>∃i7,∃i8 i9 k0,∃k1 k2 k3,t5=A #[B i7,S i8 i9 k0,S k1 k2 k3]/\(Ca t6 23 #[A #[B g3,S g4 g5 g6,S g7 g8 g9],A #[B i7,S i8 i9 k0,S k1 k2 k3]] fun t7 t8=>∃k4,∃k5 k6 k7,∃k8 k9 l0,t7=A #[B k4,S k5 k6 k7,S k8 k9 l0]/\(Ca t8 28 #[A #[B k4,S k5 k6 k7,S k8 k9 l0]] fun t9 u0=>∃f,∃g i k,∃l m n,t9=A #[B f,S g i k,S l m n]/\(Ca u0 32 #[S p q r,A #[B f,S g i k,S l m n]] fun u1 u2=>∃a,∃a8,u1=T #[I J a,a8]/\(Ca u2 32 #[S u x y,A #[B f,S g i k,S l m n]] fun u3 a1=>∃c,∃a9,u3=T #[I J c,a9]/\(IsIface a8)/\(((!isNilI a8)=true->(Rt a1 R (B false)))/\((!isNilI a8)=false->(IsIface a9)/\(((!isNilI a9)=true->(Rt a1 R (B false)))/\((!isNilI a9)=false->(((a == (1:Int))=true->(Ca a1 17 #[] fun u4 u5=>∃l3,u4=B l3/\(Rt u5 R (B l3))))/\((a == (1:Int))=false->(((c == (1:Int))=true->(Ca a1 17 #[] fun u6 u7=>∃l5,u6=B l5/\(Rt u7 R (B l5))))/\((c == (1:Int))=false->(Ca a1 13 #[S p q r,S u x y] fun u8 u9=>∃l7 l8 l9,∃w0,u8=T #[S l7 l8 l9,w0]/\(Ca u9 14 #[S p q r,S u x y] fun w1 w2=>∃m0 m1 m2,∃w3,w1=T #[S m0 m1 m2,w3]/\(Ca w2 16 #[S p q r,S u x y] fun w4 w5=>∃m3 m4 m5,∃w6,w4=T #[S m3 m4 m5,w6]/\(Ca w5 15 #[S p q r] fun w7 w8=>∃m6 m7 m8,∃w9,w7=T #[S m6 m7 m8,w9]/\(Ca w8 32 #[S l7 l8 l9,A #[B f,S g i k,S l m n]] fun x0 x1=>∃a2,∃b0,x0=T #[I J a2,b0]/\(Ca x1 32 #[S m0 m1 m2,A #[B f,S g i k,S l m n]] fun x2 x3=>∃d,∃b1,x2=T #[I J d,b1]/\(Ca x3 32 #[S m3 m4 m5,A #[B f,S g i k,S l m n]] fun x4 x5=>∃b,∃b2,x4=T #[I J b,b2]/\(Ca x5 32 #[S m6 m7 m8,A #[B f,S g i k,S l m n]] fun x6 x7=>∃e,∃b3,x6=T #[I J e,b3]/\(Ca x7 17 #[] fun x8 o=>∃b5,x8=B b5/\((b5=true->(IsIface b0)/\(((isNilI b0)=true->(IsIface b1)/\(((isNilI b1)=true->(IsIface b2)/\(((isNilI b2)=true->(IsIface b3)/\(((isNilI b3)=true->(((a == (2:Int))=true->(Ca o 33 #[B true] fun x9 b6=>∃b7,x9=I J b7/\(((a2 == b7)=true->(((a == (2:Int))=true->(Ca b6 33 #[B (c == (2:Int))] fun y0 b8=>∃b9,y0=I J b9/\(((d == b9)=true->(((a == (2:Int))=true->(Ca b8 33 #[B (!(c == (2:Int)))] fun y1 m9=>∃c0,y1=I J c0/\(((b == c0)=true->(Ca m9 33 #[B (!(a == (2:Int)))] fun y2 y3=>∃n0,y2=I J n0/\(Rt y3 R (B (e == n0)))))/\((b == c0)=false->(Rt m9 R (B false))))))/\((a == (2:Int))=false->(Ca b8 33 #[B false] fun y4 n3=>∃c1,y4=I J c1/\(((b == c1)=true->(Ca n3 33 #[B (!(a == (2:Int)))] fun y5 y6=>∃n4,y5=I J n4/\(Rt y6 R (B (e == n4)))))/\((b == c1)=false->(Rt n3 R (B false))))))))/\((d == b9)=false->(Rt b8 R (B false))))))/\((a == (2:Int))=false->(Ca b6 33 #[B false] fun y7 c2=>∃c3,y7=I J c3/\(((d == c3)=true->(((a == (2:Int))=true->(Ca c2 33 #[B (!(c == (2:Int)))] fun y8 n8=>∃c4,y8=I J c4/\(((b == c4)=true->(Ca n8 33 #[B (!(a == (2:Int)))] fun y9 z0=>∃n9,y9=I J n9/\(Rt z0 R (B (e == n9)))))/\((b == c4)=false->(Rt n8 R (B false))))))/\((a == (2:Int))=false->(Ca c2 33 #[B false] fun z1 o2=>∃c5,z1=I J c5/\(((b == c5)=true->(Ca o2 33 #[B (!(a == (2:Int)))] fun z2 z3=>∃o3,z2=I J o3/\(Rt z3 R (B (e == o3)))))/\((b == c5)=false->(Rt o2 R (B false))))))))/\((d == c3)=false->(Rt c2 R (B false))))))))/\((a2 == b7)=false->(Rt b6 R (B false))))))/\((a == (2:Int))=false->(Ca o 33 #[B (c == (2:Int))] fun z4 c6=>∃c7,z4=I J c7/\(((a2 == c7)=true->(((a == (2:Int))=true->(Ca c6 33 #[B (c == (2:Int))] fun z5 c8=>∃c9,z5=I J c9/\(((d == c9)=true->(((a == (2:Int))=true->(Ca c8 33 #[B (!(c == (2:Int)))] fun z6 o8=>∃d0,z6=I J d0/\(((b == d0)=true->(Ca o8 33 #[B (!(a == (2:Int)))] fun z7 z8=>∃o9,z7=I J o9/\(Rt z8 R (B (e == o9)))))/\((b == d0)=false->(Rt o8 R (B false))))))/\((a == (2:Int))=false->(Ca c8 33 #[B false] fun z9 p2=>∃d1,z9=I J d1/\(((b == d1)=true->(Ca p2 33 #[B (!(a == (2:Int)))] fun a00 a01=>∃p3,a00=I J p3/\(Rt a01 R (B (e == p3)))))/\((b == d1)=false->(Rt p2 R (B false))))))))/\((d == c9)=false->(Rt c8 R (B false))))))/\((a == (2:Int))=false->(Ca c6 33 #[B false] fun a02 d2=>∃d3,a02=I J d3/\(((d == d3)=true->(((a == (2:Int))=true->(Ca d2 33 #[B (!(c == (2:Int)))] fun a03 p7=>∃d4,a03=I J d4/\(((b == d4)=true->(Ca p7 33 #[B (!(a == (2:Int)))] fun a04 a05=>∃p8,a04=I J p8/\(Rt a05 R (B (e == p8)))))/\((b == d4)=false->(Rt p7 R (B false))))))/\((a == (2:Int))=false->(Ca d2 33 #[B false] fun a06 q1=>∃d5,a06=I J d5/\(((b == d5)=true->(Ca q1 33 #[B (!(a == (2:Int)))] fun a07 a08=>∃q2,a07=I J q2/\(Rt a08 R (B (e == q2)))))/\((b == d5)=false->(Rt q1 R (B false))))))))/\((d == d3)=false->(Rt d2 R (B false))))))))/\((a2 == c7)=false->(Rt c6 R (B false))))))))/\((isNilI b3)=false->(Rt o R (B false)))))/\((isNilI b2)=false->(Rt o R (B false)))))/\((isNilI b1)=false->(Rt o R (B false)))))/\((isNilI b0)=false->(Rt o R (B false)))))/\(b5=false->(Rt o R (B false)))))))))))))))))))))))))))))))))):
 Acts prog 6 #[S d6 d7 d8] V R:=
 fd (LF:=LF0) (RF:=[1000010]) [] [] func6 h
end Go.Proofs.Tryz
/- Contracts: where a number lies (package span). -/
namespace Go.Proofs.Tryz
open Go.Eng Go.Big
def Sp.ins (s:Sp) (t:Rat):Bool:=(s.a || decide (cmpQ s.lo t < 0)) && (s.b || decide (cmpQ s.hi t > 0))
theorem c_Iv_Inside {V:View} {v w:Value} {s:Sp} {t:Rat} (h:RIv V v s) (ht:RR V w t) {k:Nat} (hs:s.sz k) (st:Sz k t) (hk:2 * k < 1099511627776) :
  Acts prog 94 #[v,w] V fun r V'=>r=.bool (s.ins t):=by
 have ht0:=ht
 obtain ⟨x1,x2,p,y1,y2,q,rfl,h1,h2⟩:=h
 obtain ⟨t0,t1,t2,rfl⟩:=ht.shape
 refine vc_geo_Iv_Inside x1 x2 p y1 y2 q s.a s.b t0 t1 t2 V _ ⟨fun ha=>⟨fun hb V1 l1=>by simp [Sp.ins,ha,hb],fun hb V2 l2=>(c_R_Cmp (h2.le l2) (ht0.le l2) hs.2 st (by omega)).mono ?_⟩,fun ha V5 l5=>(c_R_Cmp (h1.le l5) (ht0.le l5) hs.1 st (by omega)).mono ?_⟩
 ·rintro r V3 l3 rfl
  exact ⟨_,rfl,fun V4 l4=>by simp [Sp.ins,ha,hb]⟩
 ·rintro r V6 l6 rfl
  refine ⟨_,rfl,fun hc=>⟨fun hb V7 l7=>by simp [Sp.ins,ha,hb,of_decide_eq_true hc],fun hb V8 l8=>(c_R_Cmp (h2.le (l5.trans (l6.trans l8))) (ht0.le (l5.trans (l6.trans l8))) hs.2 st (by omega)).mono ?_⟩,fun hc V11 l11=>by simp [Sp.ins,ha,of_decide_eq_false hc]⟩
  rintro r V9 l9 rfl
  exact ⟨_,rfl,fun V10 l10=>by simp [Sp.ins,ha,hb,of_decide_eq_true hc]⟩
theorem ins_cls {s:Sp} {t:Rat}:clsV (s.la t) (s.lb t)=if s.ins t then 2 else if s.has t then 1 else 0:=by
 obtain ⟨lo,hi,a,b⟩:=s
 have e1:=cmpQ_swap lo t
 have e2:=cmpQ_swap hi t
 unfold Sp.ins Sp.has Sp.la Sp.lb clsV
 rcases cmpQ_or lo t with ⟨-,h1⟩ | ⟨-,h1⟩ | ⟨-,h1⟩ <;> rcases cmpQ_or hi t with ⟨-,h2⟩ | ⟨-,h2⟩ | ⟨-,h2⟩ <;> rw [h1] at e1 <;> rw [h2] at e2 <;> cases a <;> cases b <;> simp_all <;> omega
theorem clsL_cons {s:Sp} {r:List Sp} {t:Rat}:clsL (s :: r) t=if clsV (s.la t) (s.lb t)≠0 then clsV (s.la t) (s.lb t) else clsL r t:=rfl
theorem c_span_Class {V:View} {p:OA} {n c:Nat} {v:Value} {A:List Sp} {x:Nat} {t:Rat} (hA:Lst 8 RSp V p n A) (oA:Ok6 A x) (h:x < 50) (ht:RA V v t) (st:Sz 10000 t) :
  Acts prog 32 #[.slice p n c,v] V fun r V'=>r=.tuple #[.int .i64 (clsL A t),.nilIface]:=by
 have ht0:=ht
 obtain ⟨_,_,_,_,_,_,_,rfl⟩:=ht.shape
 have hn:=oA.len
 refine vc_span_Class p n c _ _ _ _ _ _ _ V _ fun V1 l1=>(c_SetOf (hA.le l1 fun _ _ g=>RSp.le g l1) oA (by omega)).mono ?_
 rintro r V2 l2 ⟨q,k,e,rfl,g⟩
 obtain rfl:=g.len
 refine ⟨_,_,_,_,rfl,(fun h=>nomatch h),fun _ V4 l4=>(c_frac_Of (ht0.le (l1.trans (l2.trans l4))) st (by decide)).mono ?_⟩
 rintro r V5 l5 f
 have f0:=f
 obtain ⟨x5,x6,p7,rfl⟩:=f.shape
 refine ⟨_,_,_,rfl,fun z V'=>∃j:Nat,z=(j:Int)/\j<=A.length/\clsL A t=clsL (A.drop j) t,fun z=>A.length - z.toNat,⟨0,by and_intros <;> rfl,0,rfl,Nat.zero_le _,rfl⟩,?_⟩
 rintro z V6 l6 ⟨j,rfl,jle,hc⟩
 have g6:=g.le (l4.trans (l5.trans l6)) fun _ _ g=>RIv.le g (l4.trans (l5.trans l6))
 refine ⟨rfl,fun hlt=>?_,fun hlt V13 l13=>?_⟩
 ·have hlt:(j:Int) < A.length:=of_decide_eq_true hlt
  have hi:j < A.length:=by omega
  obtain ⟨ad,ha,xs,-,hv,hat⟩:=g6.at_ j hi
  have hv0:=hv
  obtain ⟨x1,x2,q1,y1,y2,q2,ex,r1,r2⟩:=hv
  have ex:=congrArg Array.toList (Value.agg.inj ex)
  dsimp only at ex
  subst ex
  have hs:=oA.sz _ (List.getElem_mem hi)
  have w:i64.wrap ((j:Int) + 1)=((j + 1:Nat):Int):=by rw [i64w (by omega)]; rfl
  rw [Int.toNat_natCast,w]
  rw [List.drop_eq_getElem_cons hi,clsL_cons,ins_cls] at hc
  refine ⟨isSome_addr ha,⟨by omega,by omega⟩,_,_,_,_,_,_,_,_,ad,ha,hat 0 _ rfl,hat 1 _ rfl,hat 2 _ rfl,hat 3 _ rfl,hat 4 _ rfl,hat 5 _ rfl,hat 6 _ rfl,hat 7 _ rfl,fun V7 l7=>(c_Iv_Inside (hv0.le l7) (f0.le (l6.trans l7)) hs st (by decide)).mono ?_⟩
  rintro r V8 l8 rfl
  refine ⟨_,rfl,fun hb V9 l9=>?_,fun hb V10 l10=>(c_Iv_Has (hv0.le (l7.trans (l8.trans l10))) (f0.le (l6.trans (l7.trans (l8.trans l10)))) hs st (by decide)).mono ?_⟩
  ·rw [hb] at hc
   rw [hc]; rfl
  ·rintro r V11 l11 rfl
   refine ⟨_,rfl,fun hd V12 l12=>?_,fun hd=>⟨((j + 1:Nat):Int),by dsimp only; omega,by and_intros <;> rfl,j + 1,rfl,hi,?_⟩⟩
   ·rw [hb,hd] at hc
    rw [hc]; rfl
   ·rw [hb,hd] at hc
    simpa using hc
 ·have hlt:¬ (j:Int) < A.length:=of_decide_eq_false hlt
  rw [List.drop_eq_nil_of_le (by omega)] at hc
  rw [hc]; rfl
theorem c_class {V:View} (b:Bool):Acts prog 33 #[.bool b] V fun r V'=>r=.int .i64 (if b then 2 else 0):=
 vc_law06_class b V _ ⟨fun h V l=>by subst h; rfl,fun h V l=>by subst h; rfl⟩
/-- In a regular set a number whose class is not 1 is no end. -/
theorem cls_end:∀{l:List Sp} {t:Rat},reg l->clsL l t≠1->∀s ∈ l,¬ s.isEnd t
 | [],_,_,_,s,h=>by cases h
 | s :: r,t,hr,h1,s',hs'=>by
  have he:∀s:Sp,s.good->s.isEnd t->clsV (s.la t) (s.lb t)=1:=fun s g h=>by
   have gg:=g.2
   obtain ⟨lo,hi,a,b⟩:=s
   rw [Sp.emp_iff] at gg
   unfold Sp.isEnd at h
   unfold Sp.la Sp.lb clsV
   dsimp only at gg h ⊢
   rcases cmpQ_or t lo with ⟨q1,e1⟩ | ⟨q1,e1⟩ | ⟨q1,e1⟩ <;> rcases cmpQ_or t hi with ⟨q2,e2⟩ | ⟨q2,e2⟩ | ⟨q2,e2⟩ <;> rw [e1,e2] <;> cases a <;> cases b <;> simp at gg h ⊢ <;> grind
  unfold clsL at h1
  rcases List.mem_cons.1 hs' with rfl | hs'
  ·intro h
   rw [he _ (hr.1 _ (by simp)) h] at h1
   simp at h1
  ·obtain ⟨b1,b2,b3⟩:=hr.bef hs'
   split at h1
   ·rename_i h2
    intro h
    have ht:s.hi < t:=by
     rcases h with ⟨-,rfl⟩ | ⟨hb,rfl⟩
     ·exact b3
     ·have:=lo_hi (hr.1 _ (List.mem_cons_of_mem _ hs')).2 b2 hb
      grind
    rw [ins_cls] at h2
    unfold Sp.ins Sp.has at h2
    rw [b1] at h2
    rcases cmpQ_or s.hi t with ⟨q1,e1⟩ | ⟨q1,e1⟩ | ⟨q1,e1⟩
    ·rw [e1] at h2; simp at h2
    ·grind
    ·grind
   ·exact cls_end hr.tail h1 s' hs'
theorem cls_val {l:List Sp} {t:Rat} (h:∀s ∈ l,¬ s.isEnd t):clsL l t=if inB l t then 2 else 0:=by
 rw [← cls_two h]
 induction l with
 | nil=>rfl
 | cons s r ih=>
  have ih:=ih fun x hx=>h x (by simp [hx])
  have hs:=h s (by simp)
  unfold clsL
  split
  ·rename_i h2
   have:clsV (s.la t) (s.lb t)=2:=by
    obtain ⟨lo,hi,a,b⟩:=s
    unfold Sp.isEnd at hs
    unfold Sp.la Sp.lb clsV at h2 ⊢
    dsimp only at hs h2 ⊢
    rcases cmpQ_or t lo with ⟨q1,e1⟩ | ⟨q1,e1⟩ | ⟨q1,e1⟩ <;> rcases cmpQ_or t hi with ⟨q2,e2⟩ | ⟨q2,e2⟩ | ⟨q2,e2⟩ <;> rw [e1,e2] at h2 ⊢ <;> cases a <;> cases b <;> simp at hs h2 ⊢ <;> grind
   rw [this]; rfl
  ·exact ih
end Go.Proofs.Tryz
/- Law 06: SpanPoints (printed by mkpts.py). -/
namespace Go.Proofs.Tryz
open Go.Eng Go.Big
theorem part7:∀x:Fin 7,Sz 10 (mkRat (x.1:Int) 7):=by unfold Sz; decide +kernel
theorem comb_val {op:Int} {A B:List Sp} {t:Rat} (h:t ∉ endsL (A++B)):clsL (combL op A B) t=if opB op (inB A t) (inB B t) then 2 else 0:=by
 rw [cls_val (l:=combL op A B) fun s hs he=>h (by
  rcases he with ⟨ha,rfl⟩ | ⟨hb,rfl⟩
  ·exact (comb_ends s hs).1 ha
  ·exact (comb_ends s hs).2 hb),comb_inB _ _ _ h]
set_option maxHeartbeats 1000000 in
theorem c_SpanPoints {V:View} {lp:OA} {ln lc:Nat} (hr:Rdl V lp ln) (hc:ln<=lc) :
  Acts prog 6 #[.slice lp ln lc] V fun r V'=>r=.bool true:=by
 refine vc_law06_SpanPoints lp ln lc V _ fun V1 l1=>(c_scene_New hc).mono ?_
 rintro r V2 l2 ⟨bk1,rfl,hfr,hb⟩
 refine ⟨bk1,_,_,_,_,rfl,hfr,hb,fun V3 l3 bk4 e4 h4=>?_⟩
 have l13:V1.Le V3:=le_fresh l2 hfr l3
 have hmin:min ln 400<=400:=Nat.min_le_right _ _
 replace hr:Rdl V lp (min ln 400):=fun i hi=>hr i (Nat.lt_of_lt_of_le hi (Nat.min_le_left _ _))
 generalize min ln 400=n at *
 replace hr:=hr.le (l1.trans l13)
 clear l1 l2 l3 l13 hfr hb
 refine (c_made (V:=V3.lend [bk4]) (hr.le fun b o h=>h) hmin e4 ⟨by simp,h4⟩ (Int.le_refl 0)).mono ?_
 rintro r V4 l4 ⟨qa,ma,da,A,ata,rfl,ga,oa,sa,ta,hwa⟩
 refine ⟨_,_,_,rfl,_,_,_,_,hwa,fun V5 l5=>(c_ref06_WriteAll (ga.le fun b o h=>l5 b o h).lst (by have:=oa.len; omega) sa (by decide)).mono ?_⟩
 rintro r V6 l6 ⟨pa,na,ca,rfl,ha⟩
 have L4:V3.Le V6:=fun b o h=>l6 b o (l5 b o (l4 b o h))
 replace hr:=hr.le L4
 refine ⟨_,_,_,rfl,fun V7 l7 bk7 e7 h7=>(c_made (V:=V7.lend [bk7]) (hr.le fun b o h=>l7 b o h) hmin e7 ⟨by simp,h7⟩ ta).mono ?_⟩
 replace hr:=hr.le l7
 replace ha:=up ha l7
 rintro r V8 l8 ⟨qb,mb,db,B,atb,rfl,gb,ob,sb,tb,hwb⟩
 refine ⟨_,_,_,rfl,_,_,_,_,hwb,fun V9 l9=>(c_ref06_WriteAll (gb.le fun b o h=>l9 b o h).lst (by have:=ob.len; omega) sb (by decide)).mono ?_⟩
 rintro r V10 l10 ⟨pb,nb,cb,rfl,hb⟩
 have L8:V7.Le V10:=fun b o h=>l10 b o (l9 b o (l8 b o h))
 replace hr:=hr.le L8
 replace ha:=up ha L8
 refine ⟨_,_,_,rfl,fun V11 l11 bk11 e11 h11=>(c_Q (V:=V11.lend [bk11]) (hr.le fun b o h=>l11 b o h) hmin e11 ⟨by simp,h11⟩ tb).mono ?_⟩
 rintro r V12 l12 ⟨q,atq,gq,sq,tq,hwq⟩
 have gq0:=gq
 obtain ⟨_,_,_,_,_,_,rfl⟩:=gq.shape
 refine ⟨_,_,_,_,_,_,_,rfl,_,_,_,_,hwq,fun V13 l13 bk13 e13 h13=>(c_Next (V:=V13.lend [bk13]) 7 (hr.le fun b o h=>l13 b o (l12 b o (l11 b o h))) hmin e13 ⟨by simp,h13⟩ tq (by decide) (by decide)).mono ?_⟩
 rintro r V14 l14 ⟨x,atx,rfl,x0,x1,tx,hwx⟩
 obtain ⟨i,rfl⟩:∃i:Nat,x=i:=⟨x.toNat,by omega⟩
 have sp:=part7 ⟨i,by omega⟩
 dsimp only at sp
 have L11:View.Le V10 V14:=fun b o h=>l14 b o (l13 b o (l12 b o (l11 b o h)))
 replace ha:=up ha L11
 replace hb:=up hb L11
 have gq1:RQ V14 _ q:=RQ.le gq0 fun b o h=>l14 b o (l13 b o h)
 refine ⟨_,rfl,_,_,_,_,hwx,fun V15 l15=>(c_num_Part (i:Int) 7 (by omega) (by omega) (by decide) (by decide)).mono ?_⟩
 rintro r V16 l16 gp
 have gp0:=gp
 obtain ⟨_,_,_,_,_,_,rfl⟩:=gp.shape
 have L15:View.Le V14 V16:=fun b o h=>l16 b o (l15 b o h)
 replace ha:=up ha L15
 replace hb:=up hb L15
 refine ⟨_,_,_,_,_,_,_,rfl,fun V17 l17=>(c_num_Plus (gq1.le (L15.trans l17)) (gp0.le l17) sq sp (by decide)).mono ?_⟩
 rintro r V18 l18 gt
 have gt0:=gt
 obtain ⟨_,_,_,_,_,_,rfl⟩:=gt.shape
 have st:Sz 10000 (q + mkRat (i:Int) 7):=(sq.add sp).mono (by decide)
 clear hwx hwq gq gp tx tq
 generalize q + mkRat (i:Int) 7=t at gt gt0 st
 replace ha:=up ha (l17.trans l18)
 replace hb:=up hb (l17.trans l18)
 refine ⟨_,_,_,_,_,_,_,rfl,fun V19 l19=>(c_ref01_ToQ (gt0.le l19) st (by decide)).mono ?_⟩
 rintro r V20 l20 gr
 have gr0:=gr
 obtain ⟨_,_,_,_,_,_,_,rfl⟩:=gr.shape
 replace ha:=up ha (l19.trans l20)
 replace hb:=up hb (l19.trans l20)
 refine ⟨_,_,_,_,_,_,_,rfl,fun V21 l21=>(c_span_Class (up ha l21) oa (by decide) (gr0.le l21) st).mono ?_⟩
 rintro r V22 l22 rfl
 replace ha:=up ha (l21.trans l22)
 replace hb:=up hb (l21.trans l22)
 replace gr0:=gr0.le (l21.trans l22)
 refine ⟨_,_,rfl,fun V23 l23=>(c_span_Class (up hb l23) ob (by decide) (gr0.le l23) st).mono ?_⟩
 rintro r V24 l24 rfl
 replace ha:=up ha (l23.trans l24)
 replace hb:=up hb (l23.trans l24)
 replace gr0:=gr0.le (l23.trans l24)
 have kn:∀V':View,Acts prog 17 #[] V' fun r V''=>∃b:Bool,r=.bool b/\∀V5:View,V''.Le V5->(fun (r:Value) (_:View)=>r=.bool true) (.bool b) V5:=fun V'=>c_known6.mono fun r V'' _ h=>⟨true,h,fun _ _=>rfl⟩
 refine ⟨_,_,rfl,.inl rfl,(fun h=>nomatch h),fun _=>⟨.inl rfl,(fun h=>nomatch h),fun _=>⟨fun _ V27 l27=>kn V27,fun h1=>⟨fun _ V30 l30=>kn V30,fun h2=>?_⟩⟩⟩⟩
 have n1:clsL A t≠1:=by simpa using h1
 have n2:clsL B t≠1:=by simpa using h2
 have eA:=cls_end oa.rg n1
 have eB:=cls_end ob.rg n2
 have hE:t ∉ endsL (A++B):=fun h=>by
  obtain ⟨s,hs,he⟩:=ends_iff.1 h
  rcases List.mem_append.1 hs with hs | hs
  ·exact eA s hs he
  ·exact eB s hs he
 have hF:t ∉ endsL ([fullS]++A):=fun h=>by
  obtain ⟨s,hs,he⟩:=ends_iff.1 h
  rcases List.mem_append.1 hs with hs | hs
  ·rw [List.mem_singleton.1 hs] at he
   rcases he with ⟨h,-⟩ | ⟨h,-⟩ <;> cases h
  ·exact eA s hs he
 have vA:=cls_val eA
 have vB:=cls_val eB
 have vu:=comb_val (op:=1) hE
 have vi:=comb_val (op:=2) hE
 have vd:=comb_val (op:=3) hE
 have vc:clsL (cpl A) t=_:=comb_val (op:=3) hF
 rw [full_in] at vc
 clear eA eB hE hF n1 n2 h1 h2
 refine fun V33 l33=>(c_span_Union (up ha l33) (up hb l33) oa ob (by decide)).mono ?_
 rintro r V34 l34 ⟨pu,nu,cu,rfl,hu⟩
 have L33:=l33.trans l34
 replace ha:=up ha L33
 replace hb:=up hb L33
 replace gr0:=gr0.le L33
 have ou:=oa.comb ob 1
 refine ⟨_,_,_,_,rfl,fun V35 l35=>(c_span_Intersect (up ha l35) (up hb l35) oa ob (by decide)).mono ?_⟩
 rintro r V36 l36 ⟨pi,ni,ci,rfl,hi⟩
 have L35:=l35.trans l36
 replace ha:=up ha L35
 replace hb:=up hb L35
 replace hu:=up hu L35
 replace gr0:=gr0.le L35
 have oi:=oa.comb ob 2
 refine ⟨_,_,_,_,rfl,fun V37 l37=>(c_span_Subtract (up ha l37) (up hb l37) oa ob (by decide)).mono ?_⟩
 rintro r V38 l38 ⟨pd,nd,cd,rfl,hd⟩
 have L37:=l37.trans l38
 replace ha:=up ha L37
 replace hb:=up hb L37
 replace hu:=up hu L37
 replace hi:=up hi L37
 replace gr0:=gr0.le L37
 have od:=oa.comb ob 3
 refine ⟨_,_,_,_,rfl,fun V39 l39=>(c_span_Complement (up ha l39) oa (by decide)).mono ?_⟩
 rintro r V40 l40 ⟨pc,nc,cc,rfl,hc⟩
 have L39:=l39.trans l40
 replace ha:=up ha L39
 replace hb:=up hb L39
 replace hu:=up hu L39
 replace hi:=up hi L39
 replace hd:=up hd L39
 replace gr0:=gr0.le L39
 have oc:=ok6_full.comb oa 3
 refine ⟨_,_,_,_,rfl,fun V41 l41=>(c_span_Class (up hu l41) ou (by decide) (gr0.le l41) st).mono ?_⟩
 rintro r V42 l42 rfl
 have L41:=l41.trans l42
 replace ha:=up ha L41
 replace hb:=up hb L41
 replace hu:=up hu L41
 replace hi:=up hi L41
 replace hd:=up hd L41
 replace hc:=up hc L41
 replace gr0:=gr0.le L41
 refine ⟨_,_,rfl,fun V43 l43=>(c_span_Class (up hi l43) oi (by decide) (gr0.le l43) st).mono ?_⟩
 rintro r V44 l44 rfl
 have L43:=l43.trans l44
 replace ha:=up ha L43
 replace hb:=up hb L43
 replace hu:=up hu L43
 replace hi:=up hi L43
 replace hd:=up hd L43
 replace hc:=up hc L43
 replace gr0:=gr0.le L43
 refine ⟨_,_,rfl,fun V45 l45=>(c_span_Class (up hd l45) od (by decide) (gr0.le l45) st).mono ?_⟩
 rintro r V46 l46 rfl
 have L45:=l45.trans l46
 replace ha:=up ha L45
 replace hb:=up hb L45
 replace hu:=up hu L45
 replace hi:=up hi L45
 replace hd:=up hd L45
 replace hc:=up hc L45
 replace gr0:=gr0.le L45
 refine ⟨_,_,rfl,fun V47 l47=>(c_span_Class (up hc l47) oc (by decide) (gr0.le l47) st).mono ?_⟩
 rintro r V48 l48 rfl
 have L47:=l47.trans l48
 replace ha:=up ha L47
 replace hb:=up hb L47
 replace hu:=up hu L47
 replace hi:=up hi L47
 replace hd:=up hd L47
 replace hc:=up hc L47
 replace gr0:=gr0.le L47
 refine ⟨_,_,rfl,fun V49 l49=>c_known6.mono ?_⟩
 rintro r V50 l50 rfl
 refine ⟨_,rfl,fun _=>⟨.inl rfl,fun _=>⟨.inl rfl,fun _=>⟨.inl rfl,fun _=>⟨.inl rfl,fun _=>?_,(fun h=>nomatch h)⟩,(fun h=>nomatch h)⟩,(fun h=>nomatch h)⟩,(fun h=>nomatch h)⟩,(fun h=>nomatch h)⟩
 rw [vA,vB,vu,vi,vd,vc]
 generalize inB A t=x
 generalize inB B t=y
 cases x <;> cases y
 all_goals
  repeat first
   | refine ⟨fun _=>?_,fun h=>absurd h (by decide)⟩
   | refine ⟨fun h=>absurd h (by decide),fun _=>?_⟩
   | (intro V l
      refine (c_class _).mono ?_
      rintro r W l' rfl
      refine ⟨_,rfl,?_⟩)
   | exact fun V l=>congrArg Value.bool (by decide)
end Go.Proofs.Tryz
