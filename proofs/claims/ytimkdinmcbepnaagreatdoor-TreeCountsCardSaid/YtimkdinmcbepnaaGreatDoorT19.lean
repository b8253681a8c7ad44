/- Law 14: TreeCounts. -/
import Derived.Test.YtimkdinmcbepnaaGreatDoorT14
import Derived.Test.YtimkdinmcbepnaaGreatDoorT18
set_option linter.unusedVariables false
open Go.IntKind (i64 u64 u32)
namespace Go.Proofs.Tryz
open Go.Eng Go.Big
theorem c_ShufN {V:View} {v:Value} {t:Tr} (h:AT V v (rt 0 t) (wr 0 t)) (ha:t.All Okb) (hs:t.size<=60000) (by_:Int) :
  Acts prog 46 #[v,.int .i64 by_] V fun r V'=>∃root l',AT V' r root l'/\ofT l' root=some t/\(∀x ∈ l',Bd x.ln)/\l'.length=t.size:=by
 have hl:=wr_length t 0
 refine (c_Shuffled h (by omega) (by have:=rt_le 0 t; omega) (fun d hd=>by have:=wr_kids t 0 d hd; omega) rt_neg by_).mono ?_
 rintro r V' l ⟨b,l',h1,h2,h3,h4⟩
 rw [hl] at h1 h2 h3
 refine ⟨_,l',h1,ofT_mv (okb_okL ha) (by omega) h2 h3,fun x hx=>?_,h2⟩
 obtain ⟨d,hd,e⟩:=h4 x hx
 rw [e]
 exact lines_wr (okb_bd ha) d hd
theorem c_law14_TreeCounts {V:View} {y z:Value} (hs:Snt V y z) {lp:OA} {ln lc:Nat} (hr:Rdl V lp ln) (hc:ln<=lc) (by_:Int) :
  Acts prog 9 #[.slice lp ln lc,.int .i64 by_] V fun r V'=>r=.bool true:=by
 refine vc_law14_TreeCounts lp ln lc by_ V _ fun V1 l1=>(c_scene_New hc).mono ?_
 rintro r V2 l2 ⟨bk1,rfl,hfr,hb⟩
 refine ⟨bk1,_,_,_,_,rfl,hfr,hb,fun V3 l3 bk4 e4 h4=>?_⟩
 have l13:V1.Le V3:=fun b o h=>l3 b o ⟨fun hh=>hh.elim (l2 b o h).1 fun e=>by
  have hlt:b < V1.w.heap.size:=by
   rcases Nat.lt_or_ge b V1.w.heap.size with h' | h'
   ·exact h'
   ·have:=h.2; rw [Array.getElem?_eq_none h'] at this; cases this
  have:=e.1
  omega,(l2 b o h).2⟩
 have hmin:min ln 400<=400:=Nat.min_le_right _ _
 have hr:Rdl V lp (min ln 400):=fun i hi=>hr i (Nat.lt_of_lt_of_le hi (Nat.min_le_left _ _))
 generalize min ln 400=n at *
 have l03:V.Le V3:=l1.trans l13
 refine (c_Tree 4 (V:=V3.lend [bk4]) (by omega) (hr.le fun b o h=>l03 b o h) hmin e4 ⟨by simp,h4⟩ (Int.le_refl 0)).mono ?_
 rintro r V4 l4 ⟨qa,t,at1,rfl,hqa,hta,hsa,t1,hw1⟩
 have hsz:t.size < 16:=hsa
 have hoi:=outs_ins t
 have hdp:=depth_le t
 have l04:V.Le V4:=fun b o h=>l4 b o (l03 b o h)
 refine ⟨_,rfl,_,_,_,_,hw1,fun V5 l5=>?_⟩
 have l45:V4.Le V5:=fun b o h=>l5 b o h
 refine (c_ref14_Write (hqa.le l45) hta (by omega)).mono ?_
 rintro r V6 l6 hA
 have hA0:=hA
 obtain ⟨pa,na,ca,rfl,-⟩:=hA
 have q6:=hqa.le (l45.trans l6)
 have l06:V.Le V6:=l04.trans (l45.trans l6)
 refine ⟨_,_,_,_,rfl,fun V7 l7=>(c_ShufN (hA0.le l7) hta (by omega) by_).mono ?_⟩
 rintro r V8 l8 ⟨root,l',hS,hof,hbd,hlen⟩
 have hS0:=hS
 obtain ⟨ps,ns,cs,rfl,-⟩:=hS
 have l68:=l7.trans l8
 refine ⟨_,_,_,_,rfl,fun V9 l9=>(c_tree_Size hbd (hS0.le l9) hof).mono ?_⟩
 rintro r V10 l10 rfl
 have l8_10:=l9.trans l10
 refine ⟨_,_,rfl,fun V11 l11=>(c_tree_Depth hbd (hS0.le (l8_10.trans l11)) hof).mono ?_⟩
 rintro r V12 l12 rfl
 have l8_12:=l8_10.trans (l11.trans l12)
 refine ⟨_,_,rfl,fun V13 l13=>(c_tree_Leaves hbd (hS0.le (l8_12.trans l13)) hof).mono ?_⟩
 rintro r V14 l14 rfl
 have l8_14:=l8_12.trans (l13.trans l14)
 refine ⟨_,_,_,rfl,fun V15 l15=>(c_tree_Lines hbd (hS0.le (l8_14.trans l15)) hof (by omega)).mono ?_⟩
 rintro r V16 l16 ⟨qm,nm,cm,rfl,gm⟩
 have l6_16:=l68.trans (l8_14.trans (l15.trans l16))
 refine ⟨_,_,_,_,rfl,fun V17 l17=>(c_law14_leaves t (q6.le (l6_16.trans l17)) (by omega)).mono ?_⟩
 rintro r V18 l18 rfl
 have l16_18:=l17.trans l18
 refine ⟨_,_,rfl,fun V19 l19=>(c_known (hs.le (l06.trans (l6_16.trans (l16_18.trans l19))))).mono ?_⟩
 rintro r V20 l20 rfl
 have l16_20:=l16_18.trans (l19.trans l20)
 refine ⟨_,rfl,fun _=>⟨nilI.1,fun _=>⟨nilI.1,fun _=>⟨nilI.1,fun _=>⟨nilI.1,fun _ V21 l21=>(c_ref14_Size t (q6.le (l6_16.trans (l16_20.trans l21))) (by omega)).mono ?_,(fun h=>by rw [nilI.2] at h; cases h)⟩,(fun h=>by rw [nilI.2] at h; cases h)⟩,(fun h=>by rw [nilI.2] at h; cases h)⟩,(fun h=>by rw [nilI.2] at h; cases h)⟩,(fun h=>by cases h)⟩
 rintro r V22 l22 rfl
 have l16_22:=l16_20.trans (l21.trans l22)
 rw [hlen]
 refine ⟨_,rfl,fun _ V23 l23=>(c_ref14_Depth t (q6.le (l6_16.trans (l16_22.trans l23))) (by omega)).mono ?_,fun h=>by simp at h⟩
 rintro r V24 l24 rfl
 have l16_24:=l16_22.trans (l23.trans l24)
 have w1:i64.wrap ((t.outs:Int) + (t.ins:Int))=(t.outs:Int) + (t.ins:Int):=i64w (by omega)
 have w2:i64.wrap ((t.size:Int) + 1)=(t.size:Int) + 1:=i64w (by omega)
 have w3:(t.outs:Int) + (t.ins:Int)=(t.size:Int) + 1:=by omega
 rw [w1,w2,w3]
 refine ⟨_,rfl,fun _=>⟨fun _=>⟨fun _=>⟨fun _ V25 l25=>(c_ref14_Lines (q6.le (l6_16.trans (l16_24.trans l25))) hta (by omega)).mono ?_,fun h=>by simp at h⟩,fun h=>by simp at h⟩,fun h=>by simp at h⟩,fun h=>by simp at h⟩
 rintro r V26 l26 ⟨qr,nr,cr,rfl,gr⟩
 have hbl:∀l ∈ distL t.lns,Bd l:=fun x hx=>by
  obtain ⟨y,hy,rfl⟩:=List.mem_map.1 ((distL_spec _).2 x |>.1 hx)
  exact (lns_all (okb_bd hta) y hy).can
 have hll:(distL t.lns).length<=1000:=by have:=distL_len t.lns; rw [lns_len] at this; omega
 refine ⟨_,_,_,rfl,fun V27 l27=>(c_ref04_ToLs (gr.le l27 fun _ _ g=>RLv.le g l27) (by omega) hbl).mono ?_⟩
 rintro r V28 l28 ⟨qw,nw,cw,rfl,gw⟩
 have l16_28:=l16_24.trans (l25.trans (l26.trans (l27.trans l28)))
 refine ⟨_,_,_,rfl,fun V29 l29=>(c_ref04_SameLs (gm.le (l16_28.trans l29) fun _ _ g=>RLv.le g (l16_28.trans l29)) (gw.le l29 fun _ _ g=>RLv.le g l29) (by omega) hbl).mono ?_⟩
 rintro r V30 l30 rfl
 exact ⟨_,rfl,fun V31 l31=>rfl⟩
end Go.Proofs.Tryz
