/- A part of the proof (joined by program from: FrC, RefH, FragA, SceneE, NewA, VLaw07, Law7A, SideP). -/
import Derived.Test.YtalijajeenhebaaGreatDoorM15
import Derived.Test.YtalijajeenhebaaGreatDoorM14
import Derived.Test.YtalijajeenhebaaGreatDoorM5
set_option linter.unusedVariables false
open Go.IntKind (i64 u64 u32)
/- Contracts: spans and fragments of package api, read and written by package geo. -/
namespace Go.Proofs.Tryz
open Go.Eng Go.Big
def rawQ (b:Bool) (xs ys:List Nat):Rat:=mkRat (ival b xs) (val ys)
def nrmQ (b:Bool) (xs ys:List Nat):Bool:=NrmI b xs && decide (digs (val ys)=ys) && !decide (ys=[]) && decide (Nat.gcd (val xs) (val ys)=1)
def zerQ (b:Bool) (xs ys:List Nat):Bool:=!b && decide (xs=[]) && decide (ys=[])
def endQ (b:Bool) (xs ys:List Nat) (no:Bool):Rat:=if no then 0 else rawQ b xs ys
def endOk (b:Bool) (xs ys:List Nat) (no:Bool):Bool:=if no then zerQ b xs ys else nrmQ b xs ys
theorem nrm_gcd {q:Rat}:nrmQ (decide (q.num < 0)) (digs q.num.natAbs) (digs q.den)=true/\rawQ (decide (q.num < 0)) (digs q.num.natAbs) (digs q.den)=q:=by
 constructor
 ·unfold nrmQ
  have h1:NrmI (decide (q.num < 0)) (digs q.num.natAbs)=true:=by
   unfold NrmI
   rw [val_digs]
   by_cases h:q.num < 0
   ·have:digs q.num.natAbs≠[]:=fun e=>by have:=digs_eq_nil.1 e; omega
    simp [h,this]
   ·simp [h]
  have h2:digs q.den≠[]:=fun e=>q.den_nz (digs_eq_nil.1 e)
  rw [h1,val_digs,val_digs]
  simp [h2,q.reduced,Nat.Coprime.gcd_eq_one q.reduced]
 ·unfold rawQ
  rw [ival_digs,val_digs,Rat.mkRat_self]
theorem c_frac_Normal {V:View} (b:Bool) {p q:OA} {n c m e:Nat} {xs ys:List Nat} (hx:RD V p n c xs) (hy:RD V q m e ys) (hm:xs.length<=1099511627776) (hn:ys.length<=1099511627776) :
  Acts prog 209 #[.agg #[.bool b,.slice p n c,.slice q m e]] V fun r V'=>r=.bool (nrmQ b xs ys):=by
 refine vc_frac_Normal b p n c q m e V _ fun V1 l1=>(c_integer_Normal b (hx.le l1) hm).mono ?_
 rintro r V2 l2 rfl
 refine ⟨_,rfl,fun h V3 l3=>by rw [Bool.not_eq_true'] at h; simp [nrmQ,h],fun h1 V4 l4=>(c_nat_Normal (hy.le (l1.trans (l2.trans l4))) hn).mono ?_⟩
 rw [Bool.not_eq_false'] at h1
 rintro r V5 l5 rfl
 refine ⟨_,rfl,fun h V6 l6=>by rw [Bool.not_eq_true'] at h; simp [nrmQ,h],fun h2=>⟨fun h V7 l7=>?_,fun h3 V8 l8=>?_⟩⟩
 ·have hl:=hy.len
  have:ys=[]:=by
   have h:((m:Nat):Int)=0:=by simpa using h
   exact List.length_eq_zero_iff.1 (by omega)
  simp [nrmQ,this]
 ·rw [Bool.not_eq_false'] at h2
  have hl:=hy.len
  have h3':ys≠[]:=fun e=>by
   have h:¬ ((m:Nat):Int)=0:=by simpa using h3
   rw [e] at hl; exact h (by simp at hl; omega)
  have l08:=l1.trans (l2.trans (l4.trans (l5.trans l8)))
  refine (c_nat_Gcd (hx.le l08) (hy.le l08) hm hn).mono ?_
  rintro r V9 l9 ⟨p1,n1,c1,rfl,g⟩
  have lg:(digs (Nat.gcd (val xs) (val ys))).length<=1099511627776:=by
   have h1:=digs_val_len hx.dig
   have h2:=digs_val_len hy.dig
   by_cases h0:val xs=0
   ·rw [h0,Nat.gcd_zero_left]; omega
   ·have:Nat.gcd (val xs) (val ys)<=val xs:=Nat.gcd_le_left _ (by omega)
    have:=digs_len_mono this
    omega
  refine ⟨_,_,_,rfl,fun V10 l10=>(c_nat_Bits (g.le l10) lg).mono ?_⟩
  rintro r V11 l11 rfl
  refine ⟨_,rfl,fun V12 l12=>?_⟩
  have hb:(((blen (val (digs (Nat.gcd (val xs) (val ys)))):Nat):Int) == 1)=decide (Nat.gcd (val xs) (val ys)=1):=by
   rw [val_digs,Bool.eq_iff_iff,beq_iff_eq,decide_eq_true_eq]
   have gen:∀g:Nat,((blen g:Nat):Int)=1↔g=1:=fun g=>by
    have a1:blen g<=1↔g < 2:=@blen_le g 1
    have a2:blen g<=0↔g < 1:=@blen_le g 0
    omega
   exact gen _
  rw [hb]
  simp [nrmQ,h1,h2,h3']
theorem c_geo_end {V:View} {v:Value} {b:Bool} {xs ys:List Nat} (no:Bool) (h:RRw V v b xs ys) (hm:xs.length<=1099511627776) (hn:ys.length<=1099511627776) :
  Acts prog 171 #[v,.bool no] V fun r V'=>∃w,r=.tuple #[w,.bool (endOk b xs ys no)]/\RR V' w (endQ b xs ys no):=by
 obtain ⟨p,n,c,q,m,e,rfl,hx,hy⟩:=h
 have hl:=hx.len
 have hl':=hy.len
 refine vc_geo_end b p n c q m e no V _ ⟨?_,?_⟩
 ·rintro rfl
  have z:∀V':View,RR V' (.agg #[.int .i64 0,.int .i64 0,.pointer none]) (endQ b xs ys true):=fun V'=>RR.zero V'
  refine ⟨fun h=>⟨fun h1 V1 l1=>⟨_,?_,z _⟩,fun h1 V2 l2=>⟨_,?_,z _⟩⟩,fun h V3 l3=>⟨_,?_,z _⟩⟩
  ·have e1:xs=[]:=by
    have h:((n:Nat):Int)=0:=by simpa using h1
    exact List.length_eq_zero_iff.1 (by omega)
   have e2:(((m:Nat):Int) == 0)=decide (ys=[]):=by
    rw [Bool.eq_iff_iff,beq_iff_eq,decide_eq_true_eq,← List.length_eq_zero_iff]; omega
   rw [Bool.not_eq_true'] at h
   simp [endOk,zerQ,h,e1,← e2]
  ·have e1:xs≠[]:=fun e=>by
    have h:¬ ((n:Nat):Int)=0:=by simpa using h1
    rw [e] at hl; exact h (by simp at hl; omega)
   simp [endOk,zerQ,e1]
  ·rw [Bool.not_eq_false'] at h
   simp [endOk,zerQ,h]
 ·rintro rfl V4 l4
  refine (c_frac_Of' b (hx.le l4) (hy.le l4) hm hn).mono ?_
  rintro r V5 l5 g
  have g0:=g
  obtain ⟨_,_,_,rfl⟩:=g.shape
  refine ⟨_,_,_,rfl,fun V6 l6=>(c_frac_Normal b (hx.le (l4.trans (l5.trans l6))) (hy.le (l4.trans (l5.trans l6))) hm hn).mono ?_⟩
  rintro r V7 l7 rfl
  exact ⟨_,rfl,fun V8 l8=>⟨_,rfl,g0.le (l6.trans (l7.trans l8))⟩⟩
theorem c_Iv_empty {V:View} {v:Value} {s:Sp} (h:RIv V v s) {k:Nat} (hs:s.sz k) (hk:2 * k < 1099511627776) :
  Acts prog 172 #[v] V fun r V'=>r=.bool s.emp:=by
 obtain ⟨x1,x2,p,y1,y2,q,rfl,h1,h2⟩:=h
 refine vc_geo_Iv_empty x1 x2 p y1 y2 q s.a s.b V _ ⟨fun ha=>⟨fun hb V1 l1=>(c_R_Cmp (h1.le l1) (h2.le l1) hs.1 hs.2 (by omega)).mono ?_,fun hb V4 l4=>?_⟩,fun ha V5 l5=>?_⟩
 ·rintro r V2 l2 rfl
  exact ⟨_,rfl,fun V3 l3=>by rw [Bool.not_eq_true'] at ha hb; simp [Sp.emp,ha,hb]⟩
 ·rw [Bool.not_eq_false'] at hb; simp [Sp.emp,hb]
 ·rw [Bool.not_eq_false'] at ha; simp [Sp.emp,ha]
/-- A span of package api in any form. -/
def RSw (V:View) (v:Value) (b1:Bool) (xs1 ys1:List Nat) (b2:Bool) (xs2 ys2:List Nat) (na nb:Bool):Prop:=∃p n c p' n' c' q m e q' m' e',v=.agg #[.bool b1,.slice p n c,.slice p' n' c',.bool b2,.slice q m e,.slice q' m' e',.bool na,.bool nb] /\
 RRw V (.agg #[.bool b1,.slice p n c,.slice p' n' c']) b1 xs1 ys1/\RRw V (.agg #[.bool b2,.slice q m e,.slice q' m' e']) b2 xs2 ys2
theorem RSw.le {V V':View} {v:Value} {b1:Bool} {xs1 ys1:List Nat} {b2:Bool} {xs2 ys2:List Nat} {na nb:Bool} (h:RSw V v b1 xs1 ys1 b2 xs2 ys2 na nb) (l:V.Le V'):RSw V' v b1 xs1 ys1 b2 xs2 ys2 na nb:=by
 obtain ⟨p,n,c,p',n',c',q,m,e,q',m',e',rfl,h1,h2⟩:=h
 exact ⟨_,_,_,_,_,_,_,_,_,_,_,_,rfl,h1.le l,h2.le l⟩
def spW (b1:Bool) (xs1 ys1:List Nat) (b2:Bool) (xs2 ys2:List Nat) (na nb:Bool):Sp:=⟨endQ b1 xs1 ys1 na,endQ b2 xs2 ys2 nb,na,nb⟩
def okW (b1:Bool) (xs1 ys1:List Nat) (b2:Bool) (xs2 ys2:List Nat) (na nb:Bool):Bool:=endOk b1 xs1 ys1 na && endOk b2 xs2 ys2 nb && !(spW b1 xs1 ys1 b2 xs2 ys2 na nb).emp
theorem c_geo_IvOf {V:View} {v:Value} {b1:Bool} {xs1 ys1:List Nat} {b2:Bool} {xs2 ys2:List Nat} {na nb:Bool} (h:RSw V v b1 xs1 ys1 b2 xs2 ys2 na nb) (m1:xs1.length<=1099511627776) (m2:ys1.length<=1099511627776) (m3:xs2.length<=1099511627776) (m4:ys2.length<=1099511627776)
  {k:Nat} (hs:(spW b1 xs1 ys1 b2 xs2 ys2 na nb).sz k) (hk:2 * k < 1099511627776) :
  Acts prog 122 #[v] V fun r V'=>∃w,r=.tuple #[w,.bool (okW b1 xs1 ys1 b2 xs2 ys2 na nb)]/\RIv V' w (spW b1 xs1 ys1 b2 xs2 ys2 na nb):=by
 obtain ⟨p,n,c,p',n',c',q,m,e,q',m',e',rfl,h1,h2⟩:=h
 refine vc_geo_IvOf b1 p n c p' n' c' b2 q m e q' m' e' na nb V _ fun V1 l1=>(c_geo_end na (h1.le l1) m1 m2).mono ?_
 rintro r V2 l2 ⟨w,rfl,g1⟩
 have g10:=g1
 obtain ⟨x1,x2,x3,rfl⟩:=g1.shape
 refine ⟨_,_,_,_,rfl,fun V3 l3=>(c_geo_end nb (h2.le (l1.trans (l2.trans l3))) m3 m4).mono ?_⟩
 rintro r V4 l4 ⟨w,rfl,g2⟩
 have g20:=g2
 obtain ⟨y1,y2,y3,rfl⟩:=g2.shape
 have iv:∀V5:View,V4.Le V5->RIv V5 (.agg #[.int .i64 x1,.int .i64 x2,.pointer x3,.int .i64 y1,.int .i64 y2,.pointer y3,.bool na,.bool nb]) (spW b1 xs1 ys1 b2 xs2 ys2 na nb):=fun V5 l5=>⟨_,_,_,_,_,_,rfl,g10.le (l3.trans (l4.trans l5)),g20.le l5⟩
 refine ⟨_,_,_,_,rfl,fun ha=>⟨fun hb V5 l5=>(c_Iv_empty (iv V5 l5) hs hk).mono ?_,fun hb V8 l8=>⟨_,?_,iv V8 l8⟩⟩,fun ha V9 l9=>⟨_,?_,iv V9 l9⟩⟩
 ·rintro r V6 l6 rfl
  exact ⟨_,rfl,fun V7 l7=>⟨_,by simp [okW,ha,hb],iv V7 (l5.trans (l6.trans l7))⟩⟩
 ·simp [okW,hb]
 ·simp [okW,ha]
/-- What is right to read: a fragment whose line is in lowest terms and whose span has a length. -/
def FOk (l:L3) (s:Sp):Prop:=okL l=true/\s.can/\s.emp=false
theorem RE.raw {V:View} {v:Value} {q:Rat} {no:Bool} (h:RE V v q no) (hc:no=true->q=0):∃b xs ys,RRw V v b xs ys/\endOk b xs ys no=true/\endQ b xs ys no=q/\(∀k,Sz k q->xs.length<=k/\ys.length<=k):=by
 cases no with
 | true=>
  exact ⟨false,[],[],h.1 rfl,rfl,by rw [hc rfl]; rfl,fun k _=>⟨Nat.zero_le _,Nat.zero_le _⟩⟩
 | false=>
  obtain ⟨p,n,c,p',n',c',rfl,h1,h2⟩:=h.2 rfl
  exact ⟨_,_,_,⟨_,_,_,_,_,_,rfl,h1,h2⟩,nrm_gcd.1,nrm_gcd.2,fun k hk=>⟨digs_len_bits hk.1,digs_len_bits hk.2⟩⟩
theorem c_IvOf_ok {V:View} {v:Value} {s:Sp} (h:RSp V v s) (hc:s.can) (hne:s.emp=false) {k:Nat} (hs:s.sz k) (hk:2 * k < 1099511627776) :
  Acts prog 122 #[v] V fun r V'=>∃w,r=.tuple #[w,.bool true]/\RIv V' w s:=by
 obtain ⟨b,p,n,c,p',n',c',d,q,m,e,q',m',e',rfl,h1,h2⟩:=h
 obtain ⟨b1,xs1,ys1,r1,o1,q1,z1⟩:=h1.raw hc.1
 obtain ⟨b2,xs2,ys2,r2,o2,q2,z2⟩:=h2.raw hc.2
 have e1:b=b1:=by obtain ⟨_,_,_,_,_,_,e,-⟩:=r1; injection e with e; simp at e; exact e.1
 have e2:d=b2:=by obtain ⟨_,_,_,_,_,_,e,-⟩:=r2; injection e with e; simp at e; exact e.1
 subst e1 e2
 have z1:=z1 k hs.1
 have z2:=z2 k hs.2
 have es:spW b xs1 ys1 d xs2 ys2 s.a s.b=s:=by unfold spW; rw [q1,q2]
 refine (c_geo_IvOf (V:=V) (b1:=b) (xs1:=xs1) (ys1:=ys1) (b2:=d) (xs2:=xs2) (ys2:=ys2) (na:=s.a) (nb:=s.b) ⟨_,_,_,_,_,_,_,_,_,_,_,_,rfl,r1,r2⟩ (by omega) (by omega) (by omega) (by omega) (k:=k) (by rw [es]; exact hs) hk).mono ?_
 rintro r V2 l2 ⟨w,rfl,g⟩
 rw [es] at g
 exact ⟨w,by unfold okW; rw [es,o1,o2,hne]; rfl,g⟩
theorem c_Iv_API {V:View} {v:Value} {s:Sp} (h:RIv V v s) {k:Nat} (hs:s.sz k) (hk:k<=1099511627776):Acts prog 104 #[v] V fun r V'=>RSp V' r s:=by
 obtain ⟨x1,x2,p,y1,y2,q,rfl,h1,h2⟩:=h
 have t:∀{V:View} {v:Value} {x:Rat} {no:Bool},RA V v x->(!no)=true->RE V v x no:=fun h e=>by
  rw [Bool.not_eq_true'] at e; subst e; exact ⟨(fun h=>nomatch h),fun _=>h⟩
 have f:∀{V:View} {x:Rat} {no:Bool},(!no)=false->RE V (.agg #[.bool false,.slice none 0 0,.slice none 0 0]) x no:=fun e=>by
  rw [Bool.not_eq_false'] at e; subst e; exact ⟨fun _=>RRw.nil,(fun h=>nomatch h)⟩
 refine vc_geo_Iv_API x1 x2 p y1 y2 q s.a s.b V _ ⟨fun ha V1 l1=>(c_R_API (h1.le l1) hs.1 hk).mono ?_,fun ha=>⟨fun hb V7 l7=>(c_R_API (h2.le l7) hs.2 hk).mono ?_,fun hb V10 l10=>?_⟩⟩
 ·rintro r V2 l2 g1
  have g10:=g1
  obtain ⟨_,_,_,_,_,_,_,rfl⟩:=g1.shape
  refine ⟨_,_,_,_,_,_,_,rfl,fun hb V3 l3=>(c_R_API (h2.le (l1.trans (l2.trans l3))) hs.2 hk).mono ?_,fun hb V6 l6=>?_⟩
  ·rintro r V4 l4 g2
   have g20:=g2
   obtain ⟨_,_,_,_,_,_,_,rfl⟩:=g2.shape
   exact ⟨_,_,_,_,_,_,_,rfl,fun V5 l5=>⟨_,_,_,_,_,_,_,_,_,_,_,_,_,_,rfl,t (g10.le (l3.trans (l4.trans l5))) ha,t (g20.le l5) hb⟩⟩
  ·exact ⟨_,_,_,_,_,_,_,_,_,_,_,_,_,_,rfl,t (g10.le l6) ha,f hb⟩
 ·rintro r V8 l8 g2
  have g20:=g2
  obtain ⟨_,_,_,_,_,_,_,rfl⟩:=g2.shape
  exact ⟨_,_,_,_,_,_,_,rfl,fun V9 l9=>⟨_,_,_,_,_,_,_,_,_,_,_,_,_,_,rfl,f ha,t (g20.le l9) hb⟩⟩
 ·exact ⟨_,_,_,_,_,_,_,_,_,_,_,_,_,_,rfl,f ha,f hb⟩
theorem RLi.api {V:View} {r:Value} {l:L3} (h:RL V r ((l.1:Rat)).num ((l.2.1:Rat)).num ((l.2.2:Rat)).num):RL V r l.1 l.2.1 l.2.2:=by
 simpa [Rat.num_intCast] using h
theorem c_Fr_API {V:View} {v:Value} {l:L3} {s:Sp} (h:RFr V v l s) {k:Nat} (sl:SzL k l) (hs:s.sz k) (hk:k<=1099511627776):Acts prog 49 #[v] V fun r V'=>RFa V' r l s:=by
 obtain ⟨x1,x2,p,y1,y2,q,z1,z2,r,u1,u2,t,w1,w2,o,rfl,h1,h2⟩:=h
 refine vc_geo_Fr_API _ _ _ _ _ _ _ _ _ _ _ _ _ _ _ _ _ V _ fun V1 l1=>(c_geo_API (h1.le l1) sl.1 sl.2.1 sl.2.2 hk).mono ?_
 rintro r V2 l2 g1
 have g10:=RLi.api g1
 obtain ⟨_,_,_,_,_,_,_,_,_,_,_,_,rfl⟩:=rl_shape g1
 refine ⟨_,_,_,_,_,_,_,_,_,_,_,_,rfl,fun V3 l3=>(c_Iv_API (h2.le (l1.trans (l2.trans l3))) hs hk).mono ?_⟩
 rintro r V4 l4 g2
 have g20:=g2
 obtain ⟨_,_,_,_,_,_,_,_,_,_,_,_,_,_,rfl,-,-⟩:=g2
 exact ⟨_,_,_,_,_,_,_,_,_,_,_,_,_,_,_,_,rfl,fun V5 l5=>⟨_,_,_,_,_,_,_,_,_,_,_,_,_,_,_,_,_,_,_,_,_,_,_,_,_,_,rfl,g10.le (l3.trans (l4.trans l5)),g20.le l5⟩⟩
theorem okL_nz {l:L3} (h:okL l=true):Nz l:=by
 unfold okL at h
 intro e
 simp [e.1,e.2] at h
theorem okL_lnOf {a b c:Int} (h:¬ (a=0/\b=0)):okL (lnOf a b c)=true:=by
 have hg:0 < gcd3 a b c:=by
  apply Nat.pos_of_ne_zero
  intro e
  have h1:=Nat.gcd_eq_zero_iff.1 e
  have h2:=Nat.gcd_eq_zero_iff.1 h1.1
  exact h ⟨by omega,by omega⟩
 have nA:gcd3 a b c ∣ a.natAbs:=Nat.dvd_trans (Nat.gcd_dvd_left _ _) (Nat.gcd_dvd_left _ _)
 have nB:gcd3 a b c ∣ b.natAbs:=Nat.dvd_trans (Nat.gcd_dvd_left _ _) (Nat.gcd_dvd_right _ _)
 have nC:gcd3 a b c ∣ c.natAbs:=Nat.gcd_dvd_right _ _
 have dv:∀{x:Int},gcd3 a b c ∣ x.natAbs->((gcd3 a b c:Nat):Int) ∣ x:=fun h=>Int.natAbs_dvd_natAbs.1 (by rw [Int.natAbs_natCast]; exact h)
 have ab:∀{x:Int},gcd3 a b c ∣ x.natAbs->(x / (gcd3 a b c:Int)).natAbs=x.natAbs / gcd3 a b c:=fun h=>by rw [Int.natAbs_ediv_of_dvd (dv h),Int.natAbs_natCast]
 have nz:∀{x:Int},gcd3 a b c ∣ x.natAbs->x / (gcd3 a b c:Int)=0->x=0:=fun hx e=>by
  obtain ⟨k,hk⟩:=dv hx
  rw [hk,Int.mul_ediv_cancel_left _ (by omega)] at e
  rw [hk,e,Int.mul_zero]
 have e:gcd3 (a / (gcd3 a b c:Int)) (b / (gcd3 a b c:Int)) (c / (gcd3 a b c:Int))=1:=by
  show Nat.gcd (Nat.gcd (a / (gcd3 a b c:Int)).natAbs (b / (gcd3 a b c:Int)).natAbs) (c / (gcd3 a b c:Int)).natAbs=1
  rw [ab nA,ab nB,ab nC,Nat.gcd_div nA nB,Nat.gcd_div (show gcd3 a b c ∣ Nat.gcd a.natAbs b.natAbs from Nat.gcd_dvd_left _ _) nC]
  exact Nat.div_self hg
 have n:¬ (a / (gcd3 a b c:Int)=0/\b / (gcd3 a b c:Int)=0):=fun ⟨h1,h2⟩=>h ⟨nz nA h1,nz nB h2⟩
 show (decide (¬ (a / (gcd3 a b c:Int)=0/\b / (gcd3 a b c:Int)=0)) && decide (gcd3 (a / (gcd3 a b c:Int)) (b / (gcd3 a b c:Int)) (c / (gcd3 a b c:Int))=1))=true
 rw [decide_eq_true n,decide_eq_true e]
 rfl
theorem okL_mkLn {a b c:Rat} (h:¬ (a=0/\b=0)):okL (mkLn a b c)=true:=by
 refine okL_lnOf ?_
 have hf:a.den * b.den * c.den≠0:=Nat.mul_ne_zero (Nat.mul_ne_zero a.den_nz b.den_nz) c.den_nz
 have hf':(((a.den * b.den * c.den:Nat):Int):Rat)≠0:=by exact_mod_cast hf
 rintro ⟨h1,h2⟩
 rw [Rat.num_eq_zero] at h1 h2
 exact h ⟨(Rat.mul_eq_zero.1 h1).elim id fun e=>absurd e hf',(Rat.mul_eq_zero.1 h2).elim id fun e=>absurd e hf'⟩
theorem okL_thrL {px py qx qy:Rat} (h:¬ (px=qx/\py=qy)):okL (thrL px py qx qy)=true:=okL_mkLn (thrL_ne h)
theorem c_LnOf_ok {V:View} {v:Value} {x:L3} (h:RL V v x.1 x.2.1 x.2.2) (ho:okL x=true) {k:Nat} (sl:SzL k x) (hk:4 * k + 4 < 1099511627776) :
  Acts prog 90 #[v] V fun r V'=>∃w,r=.tuple #[w,.bool true]/\RLi V' w x:=by
 obtain ⟨p,n,s,p',n',s',q,m,e,rfl,h1,h2,h3⟩:=h
 have d1:=digs_len_bits (show x.1.natAbs < 2 ^ k from sl.1.1)
 have d2:=digs_len_bits (show x.2.1.natAbs < 2 ^ k from sl.2.1.1)
 have d3:=digs_len_bits (show x.2.2.natAbs < 2 ^ k from sl.2.2.1)
 have hc:=c_geo_LnOf (V:=V) (decide (x.1 < 0)) (decide (x.2.1 < 0)) (decide (x.2.2 < 0)) h1 h2 h3 (by omega) (by omega) (by omega) (k:=k) (by rw [ival_digs]; exact sl.1) (by rw [ival_digs]; exact sl.2.1) (by rw [ival_digs]; exact sl.2.2) hk
 rw [okLn_okL,ival_digs,ival_digs,ival_digs] at hc
 refine hc.mono ?_
 rintro r V2 l2 ⟨w,rfl,-,g⟩
 have ho':okL (x.1,x.2.1,x.2.2)=true:=ho
 exact ⟨w,by rw [ho'],g ho'⟩
theorem c_FrOf_ok {V:View} {v:Value} {l:L3} {s:Sp} (h:RFa V v l s) (ho:FOk l s) {k:Nat} (sl:SzL k l) (hs:s.sz k) (hk:4 * k + 4 < 1099511627776) :
  Acts prog 66 #[v] V fun r V'=>∃w,r=.tuple #[w,.bool true]/\RFr V' w l s:=by
 obtain ⟨ho,hc,hne⟩:=ho
 obtain ⟨b1,p1,n1,c1,b2,p2,n2,c2,b3,p3,n3,c3,b,p,n,c,p',n',c',d,q,m,e,q',m',e',rfl,h1,h2⟩:=h
 refine vc_geo_FrOf b1 p1 n1 c1 b2 p2 n2 c2 b3 p3 n3 c3 b p n c p' n' c' d q m e q' m' e' s.a s.b V _ fun V1 l1=>(c_LnOf_ok (h1.le l1) ho sl (by omega)).mono ?_
 rintro r V2 l2 ⟨w,rfl,g1⟩
 have g10:=g1
 obtain ⟨_,_,_,_,_,_,_,_,_,rfl,-,-,-⟩:=g1
 refine ⟨_,_,_,_,_,_,_,_,_,_,rfl,fun V3 l3=>(c_IvOf_ok (h2.le (l1.trans (l2.trans l3))) hc hne hs (by omega)).mono ?_⟩
 rintro r V4 l4 ⟨w,rfl,g2⟩
 have g20:=g2
 obtain ⟨_,_,_,_,_,_,rfl,-,-⟩:=g2
 refine ⟨_,_,_,_,_,_,_,_,_,rfl,fun _ V5 l5=>⟨_,rfl,_,_,_,_,_,_,_,_,_,_,_,_,_,_,_,rfl,g10.le (l3.trans (l4.trans l5)),g20.le l5⟩,(fun h=>nomatch h)⟩
theorem c_Iv_Has {V:View} {v w:Value} {s:Sp} {t:Rat} (h:RIv V v s) (ht:RR V w t) {k:Nat} (hs:s.sz k) (st:Sz k t) (hk:2 * k < 1099511627776) :
  Acts prog 124 #[v,w] V fun r V'=>r=.bool (s.has t):=by
 have ht0:=ht
 obtain ⟨x1,x2,p,y1,y2,q,rfl,h1,h2⟩:=h
 obtain ⟨t0,t1,t2,rfl⟩:=ht.shape
 refine vc_geo_Iv_Has x1 x2 p y1 y2 q s.a s.b t0 t1 t2 V _ ⟨fun ha=>⟨fun hb V1 l1=>by simp [Sp.has,ha,hb],fun hb V2 l2=>(c_R_Cmp (h2.le l2) (ht0.le l2) hs.2 st (by omega)).mono ?_⟩,fun ha V5 l5=>(c_R_Cmp (h1.le l5) (ht0.le l5) hs.1 st (by omega)).mono ?_⟩
 ·rintro r V3 l3 rfl
  exact ⟨_,rfl,fun V4 l4=>by simp [Sp.has,ha,hb]⟩
 ·rintro r V6 l6 rfl
  refine ⟨_,rfl,fun hc=>⟨fun hb V7 l7=>by simp [Sp.has,ha,hb,of_decide_eq_true hc],fun hb V8 l8=>(c_R_Cmp (h2.le (l5.trans (l6.trans l8))) (ht0.le (l5.trans (l6.trans l8))) hs.2 st (by omega)).mono ?_⟩,fun hc V11 l11=>by simp [Sp.has,ha,of_decide_eq_false hc]⟩
  rintro r V9 l9 rfl
  exact ⟨_,rfl,fun V10 l10=>by simp [Sp.has,ha,hb,of_decide_eq_true hc]⟩
theorem Sp.neg_sz {s:Sp} {k:Nat} (h:s.sz k):s.neg.sz k:=by
 unfold Sp.neg Sp.sz
 have z:Sz k (0:Rat):=by
  have:=h.1.2
  refine ⟨Nat.lt_of_le_of_lt (Nat.zero_le _) this,?_⟩
  exact Nat.lt_of_le_of_lt (Nat.pos_of_ne_zero s.lo.den_nz) this
 constructor
 ·dsimp only; split
  ·exact z
  ·exact h.2.neg
 ·dsimp only; split
  ·exact z
  ·exact h.1.neg
theorem c_Iv_Neg {V:View} {v:Value} {s:Sp} (h:RIv V v s) {k:Nat} (hs:s.sz k) (hk:k<=1099511627776):Acts prog 126 #[v] V fun r V'=>RIv V' r s.neg:=by
 obtain ⟨x1,x2,p,y1,y2,q,rfl,h1,h2⟩:=h
 have t:∀{V:View} {v:Value} {x:Rat} {no:Bool},RR V v (-x)->(!no)=true->RR V v (if no=true then 0 else -x):=fun h e=>by
  rw [Bool.not_eq_true'] at e; rw [e]; exact h
 have f:∀{V:View} {x:Rat} {no:Bool},(!no)=false->RR V (.agg #[.int .i64 0,.int .i64 0,.pointer none]) (if no=true then 0 else -x):=fun e=>by
  rw [Bool.not_eq_false'] at e; rw [e]; exact RR.zero _
 refine vc_geo_Iv_Neg x1 x2 p y1 y2 q s.a s.b V _ ⟨fun ha V1 l1=>(c_R_Neg (h2.le l1) hs.2 hk).mono ?_,fun ha=>⟨fun hb V7 l7=>(c_R_Neg (h1.le l7) hs.1 hk).mono ?_,fun hb V10 l10=>?_⟩⟩
 ·rintro r V2 l2 g1
  have g10:=g1
  obtain ⟨_,_,_,rfl⟩:=g1.shape
  refine ⟨_,_,_,rfl,fun hb V3 l3=>(c_R_Neg (h1.le (l1.trans (l2.trans l3))) hs.1 hk).mono ?_,fun hb V6 l6=>?_⟩
  ·rintro r V4 l4 g2
   have g20:=g2
   obtain ⟨_,_,_,rfl⟩:=g2.shape
   exact ⟨_,_,_,rfl,fun V5 l5=>⟨_,_,_,_,_,_,rfl,t (g10.le (l3.trans (l4.trans l5))) ha,t (g20.le l5) hb⟩⟩
  ·exact ⟨_,_,_,_,_,_,rfl,t (g10.le l6) ha,f hb⟩
 ·rintro r V8 l8 g2
  have g20:=g2
  obtain ⟨_,_,_,rfl⟩:=g2.shape
  exact ⟨_,_,_,rfl,fun V9 l9=>⟨_,_,_,_,_,_,rfl,f ha,t (g20.le l9) hb⟩⟩
 ·exact ⟨_,_,_,_,_,_,rfl,f ha,f hb⟩
theorem c_Fr_End {V:View} {v:Value} {l:L3} {s:Sp} (h:RFr V v l s) {k:Nat} (sl:SzL k l) (hs:s.sz k) (hk:20 * k + 19 < 274877906944) :
  Acts prog 62 #[v] V fun r V'=>∃w,r=.tuple #[w,.bool (!s.b)]/\RPt V' w (if s.b then 0 else atX l s.hi) (if s.b then 0 else atY l s.hi):=by
 obtain ⟨x1,x2,p,y1,y2,q,z1,z2,r,u1,u2,t,w1,w2,o,rfl,h1,h2⟩:=h
 obtain ⟨_,_,_,_,_,_,e,g1,g2⟩:=h2
 simp only [Value.agg.injEq,Array.mk.injEq,List.cons.injEq,Value.int.injEq,Value.pointer.injEq,true_and,and_true] at e
 obtain ⟨rfl,rfl,rfl,rfl,rfl,rfl⟩:=e
 refine vc_geo_Fr_End _ _ _ _ _ _ _ _ _ _ _ _ _ _ _ _ _ V _ ⟨fun ha V1 l1=>⟨_,by rw [ha]; rfl,by rw [ha]; exact ⟨_,_,_,_,_,_,rfl,RR.zero _,RR.zero _⟩⟩,fun ha V2 l2=>(k_At (h1.le l2) (g2.le l2) sl hs.2 hk).mono ?_⟩
 rintro r V3 l3 g
 have g0:=g
 obtain ⟨_,_,_,_,_,_,rfl,-,-⟩:=g
 exact ⟨_,_,_,_,_,_,rfl,fun V4 l4=>⟨_,by rw [ha]; rfl,by rw [ha]; exact g0.le l4⟩⟩
end Go.Proofs.Tryz
/- Contracts: the reference's spans and fragments: written, compared, a number's class, Has. -/
namespace Go.Proofs.Tryz
open Go.Eng Go.Big
theorem c_ref06_Write {V:View} {v:Value} {s:Sp} (h:RSs V v s) {k:Nat} (hs:s.sz k) (hk:k<=1099511627776):Acts prog 59 #[v] V fun r V'=>RSp V' r s:=by
 obtain ⟨b1,p,n,c,p',n',c',d,q,m,e,q',m',e',rfl,h1,h2⟩:=h
 have t:∀{V:View} {v:Value} {x:Rat} {no:Bool},RA V v x->(!no)=true->RE V v x no:=fun h e=>by
  rw [Bool.not_eq_true'] at e; subst e; exact ⟨(fun h=>nomatch h),fun _=>h⟩
 have f:∀{V:View} {x:Rat} {no:Bool},(!no)=false->RE V (.agg #[.bool false,.slice none 0 0,.slice none 0 0]) x no:=fun e=>by
  rw [Bool.not_eq_false'] at e; subst e; exact ⟨fun _=>RRw.nil,(fun h=>nomatch h)⟩
 refine vc_ref06_Write _ _ _ _ _ _ _ _ _ _ _ _ _ _ _ _ V _ ⟨fun ha V1 l1=>(c_ref01_ToQ (h1.le l1) hs.1 hk).mono ?_,fun ha=>⟨fun hb V7 l7=>(c_ref01_ToQ (h2.le l7) hs.2 hk).mono ?_,fun hb V10 l10=>?_⟩⟩
 ·rintro r V2 l2 g1
  have g10:=g1
  obtain ⟨_,_,_,_,_,_,_,rfl⟩:=g1.shape
  refine ⟨_,_,_,_,_,_,_,rfl,fun hb V3 l3=>(c_ref01_ToQ (h2.le (l1.trans (l2.trans l3))) hs.2 hk).mono ?_,fun hb V6 l6=>?_⟩
  ·rintro r V4 l4 g2
   have g20:=g2
   obtain ⟨_,_,_,_,_,_,_,rfl⟩:=g2.shape
   exact ⟨_,_,_,_,_,_,_,rfl,fun V5 l5=>⟨_,_,_,_,_,_,_,_,_,_,_,_,_,_,rfl,t (g10.le (l3.trans (l4.trans l5))) ha,t (g20.le l5) hb⟩⟩
  ·exact ⟨_,_,_,_,_,_,_,_,_,_,_,_,_,_,rfl,t (g10.le l6) ha,f hb⟩
 ·rintro r V8 l8 g2
  have g20:=g2
  obtain ⟨_,_,_,_,_,_,_,rfl⟩:=g2.shape
  exact ⟨_,_,_,_,_,_,_,rfl,fun V9 l9=>⟨_,_,_,_,_,_,_,_,_,_,_,_,_,_,rfl,f ha,t (g20.le l9) hb⟩⟩
 ·exact ⟨_,_,_,_,_,_,_,_,_,_,_,_,_,_,rfl,f ha,f hb⟩
theorem SzL.digs {k:Nat} {l:L3} (h:SzL k l) (hk:k<=1099511627776):(digs l.1.natAbs).length<=1099511627776/\(digs l.2.1.natAbs).length<=1099511627776/\(digs l.2.2.natAbs).length<=1099511627776:=by
 have d1:=digs_len_bits (show l.1.natAbs < 2 ^ k from h.1.1)
 have d2:=digs_len_bits (show l.2.1.natAbs < 2 ^ k from h.2.1.1)
 have d3:=digs_len_bits (show l.2.2.natAbs < 2 ^ k from h.2.2.1)
 exact ⟨by omega,by omega,by omega⟩
theorem c_ref06_WriteF {V:View} {v:Value} {l:L3} {s:Sp} (h:RF V v l s) {k:Nat} (sl:SzL k l) (hs:s.sz k) (hk:k<=1099511627776):Acts prog 15 #[v] V fun r V'=>RFa V' r l s:=by
 obtain ⟨d1,d2,d3⟩:=sl.digs hk
 obtain ⟨b1,p1,n1,c1,b2,p2,n2,c2,b3,p3,n3,c3,b,p,n,c,p',n',c',d,q,m,e,q',m',e',rfl,h1,h2⟩:=h
 refine vc_ref06_WriteF _ _ _ _ _ _ _ _ _ _ _ _ _ _ _ _ _ _ _ _ _ _ _ _ _ _ _ _ V _ fun V1 l1=>(c_ref04_ToL (h1.le l1) d1 d2 d3).mono ?_
 rintro r V2 l2 g1
 have g10:=g1
 obtain ⟨_,_,_,_,_,_,_,_,_,_,_,_,rfl⟩:=rl_shape g1
 refine ⟨_,_,_,_,_,_,_,_,_,_,_,_,rfl,fun V3 l3=>(c_ref06_Write (h2.le (l1.trans (l2.trans l3))) hs hk).mono ?_⟩
 rintro r V4 l4 g2
 have g20:=g2
 obtain ⟨_,_,_,_,_,_,_,_,_,_,_,_,_,_,rfl,-,-⟩:=g2
 exact ⟨_,_,_,_,_,_,_,_,_,_,_,_,_,_,_,_,rfl,fun V5 l5=>⟨_,_,_,_,_,_,_,_,_,_,_,_,_,_,_,_,_,_,_,_,_,_,_,_,_,_,rfl,g10.le (l3.trans (l4.trans l5)),g20.le l5⟩⟩
/-- A fragment that lies at an address; a list of fragments. -/
def FAt (V:View) (ad:Addr) (l:L3) (s:Sp):Prop:=∃xs:List Value,RFa V (.agg xs.toArray) l s/\∀i x,xs[i]?=some x->V.at (ad.add i) x
theorem FAt.le {V V':View} {ad:Addr} {l:L3} {s:Sp} (h:FAt V ad l s) (e:V.Le V'):FAt V' ad l s:=by
 obtain ⟨xs,h1,h2⟩:=h; exact ⟨xs,h1.le e,fun i x hx=>e.at (h2 i x hx)⟩
structure RFas (V:View) (p:OA) (n:Nat) (fs:List (L3 × Sp)):Prop where
 len:n=fs.length
 at_:∀(i:Nat) (h:i < fs.length),∃ad,addrAdd p (i * 14)=some ad/\FAt V ad fs[i].1 fs[i].2
theorem RFas.le {V V':View} {p:OA} {n:Nat} {fs:List (L3 × Sp)} (h:RFas V p n fs) (e:V.Le V'):RFas V' p n fs:=⟨h.len,fun i hi=>by obtain ⟨ad,h1,h2⟩:=h.at_ i hi; exact ⟨ad,h1,h2.le e⟩⟩
theorem isSome_addr {p:OA} {j:Nat} {ad:Addr} (h:addrAdd p j=some ad):p.isSome=true:=by
 cases p with
 | none=>cases h
 | some a=>rfl
/-- A span that lies at an address; a list of spans. -/
def SAt (V:View) (ad:Addr) (s:Sp):Prop:=∃xs:List Value,RSs V (.agg xs.toArray) s/\∀i x,xs[i]?=some x->V.at (ad.add i) x
theorem SAt.le {V V':View} {ad:Addr} {s:Sp} (h:SAt V ad s) (e:V.Le V'):SAt V' ad s:=by
 obtain ⟨xs,h1,h2⟩:=h; exact ⟨xs,h1.le e,fun i x hx=>e.at (h2 i x hx)⟩
structure RSl (V:View) (p:OA) (n:Nat) (ss:List Sp):Prop where
 len:n=ss.length
 at_:∀(i:Nat) (h:i < ss.length),∃ad,addrAdd p (i * 8)=some ad/\SAt V ad ss[i]
theorem RSl.le {V V':View} {p:OA} {n:Nat} {ss:List Sp} (h:RSl V p n ss) (e:V.Le V'):RSl V' p n ss:=⟨h.len,fun i hi=>by obtain ⟨ad,h1,h2⟩:=h.at_ i hi; exact ⟨ad,h1,h2.le e⟩⟩
def Sp.la (s:Sp) (t:Rat):Int:=if s.a then 1 else cmpQ t s.lo
def Sp.lb (s:Sp) (t:Rat):Int:=if s.b then -1 else cmpQ t s.hi
theorem cmpQ_swap (x y:Rat):cmpQ y x=- cmpQ x y:=by
 unfold cmpQ
 rw [show y - x=-(x - y) from by grind]
 exact Int.sign_neg _
theorem thr_thrL {px py qx qy:Rat}:((thr px py qx qy).1.num / (gcd3 (thr px py qx qy).1.num (thr px py qx qy).2.1.num (thr px py qx qy).2.2.num:Int),(thr px py qx qy).2.1.num / (gcd3 (thr px py qx qy).1.num (thr px py qx qy).2.1.num (thr px py qx qy).2.2.num:Int),(thr px py qx qy).2.2.num / (gcd3 (thr px py qx qy).1.num (thr px py qx qy).2.1.num (thr px py qx qy).2.2.num:Int))=thrL px py qx qy:=by
 unfold thr thrL mkLn lnOf
 have e:∀x:Rat,(-x).den=x.den:=fun x=>rfl
 rw [e (-(qy - py) * px + (qx - px) * py)]
 rfl
theorem thr_zero {px py qx qy:Rat}:((thr px py qx qy).1.num=0/\(thr px py qx qy).2.1.num=0)↔(px=qx/\py=qy):=by
 unfold thr
 dsimp only
 generalize hf:(-(qy - py)).den * (qx - px).den * (-(-(qy - py) * px + (qx - px) * py)).den=f
 have hf0:f≠0:=by rw [← hf]; exact Nat.mul_ne_zero (Nat.mul_ne_zero (Rat.den_nz _) (Rat.den_nz _)) (Rat.den_nz _)
 have hf1:((f:Int):Rat)≠0:=by exact_mod_cast hf0
 rw [Rat.num_eq_zero,Rat.num_eq_zero,Rat.mul_eq_zero,Rat.mul_eq_zero,or_iff_left hf1,or_iff_left hf1]
 exact thrL_eq.symm
/-- The reference's Through, with the line by name. -/
theorem r_Through {V:View} {u w:Value} {px py qx qy:Rat} (hp:RP V u px py) (hq:RP V w qx qy) {k:Nat} (s1:Sz k px) (s2:Sz k py) (s3:Sz k qx) (s4:Sz k qy) (hk1:1<=k) (hk:64 * k + 64 < 274877906944) :
  Acts prog 51 #[u,w] V fun r V'=>(px=qx/\py=qy->∃l,r=.tuple #[l,.bool false]/\RL V' l 0 0 0)/\(¬ (px=qx/\py=qy)->∃l,r=.tuple #[l,.bool true]/\RL V' l (thrL px py qx qy).1 (thrL px py qx qy).2.1 (thrL px py qx qy).2.2):=by
 refine (c_ref04_Through hp hq s1 s2 s3 s4 hk1 hk).mono ?_
 rintro r V2 l2 ⟨m1,m2⟩
 have e:=thr_thrL (px:=px) (py:=py) (qx:=qx) (qy:=qy)
 rw [thr_zero] at m1 m2
 refine ⟨m1,fun h=>?_⟩
 obtain ⟨l,hl,g⟩:=m2 h
 rw [← e]
 exact ⟨l,hl,g⟩
theorem c_ref06_Segment {V:View} {u v:Value} {px py qx qy:Rat} (hp:RP V u px py) (hq:RP V v qx qy) {k:Nat} (s1:Sz k px) (s2:Sz k py) (s3:Sz k qx) (s4:Sz k qy) (hk1:1<=k) (hk:400 * k + 400 < 274877906944) :
  Acts prog 11 #[u,v] V fun r V'=>(px=qx/\py=qy->∃l,r=.tuple #[l,.bool false]/\RF V' l (0,0,0) Sp.zero)/\(¬ (px=qx/\py=qy)->∃l,r=.tuple #[l,.bool true]/\RF V' l (thrL px py qx qy) (segS px py qx qy)):=by
 have hp0:=hp
 have hq0:=hq
 obtain ⟨_,_,_,_,_,_,_,_,_,_,_,_,_,_,rfl⟩:=rp_shape hp
 obtain ⟨_,_,_,_,_,_,_,_,_,_,_,_,_,_,rfl⟩:=rp_shape hq
 refine vc_ref06_Segment _ _ _ _ _ _ _ _ _ _ _ _ _ _ _ _ _ _ _ _ _ _ _ _ _ _ _ _ V _ fun V1 l1=>(r_Through (hp0.le l1) (hq0.le l1) s1 s2 s3 s4 hk1 (by omega)).mono ?_
 rintro r V2 l2 ⟨m1,m2⟩
 by_cases h:px=qx/\py=qy
 ·obtain ⟨l,rfl,g5⟩:=m1 h
  obtain ⟨_,_,_,_,_,_,_,_,_,_,_,_,rfl⟩:=rl_shape g5
  have z:∀V:View,RQ V (.agg #[.bool false,.slice none 0 0,.slice none 0 0]) 0:=fun V=>by have:=RQ.zero (V:=V); simpa using this
  refine ⟨_,_,_,_,_,_,_,_,_,_,_,_,_,rfl,fun _ V3 l3=>⟨fun _=>⟨_,rfl,?_⟩,fun h'=>absurd h h'⟩,fun h=>nomatch h⟩
  exact ⟨_,_,_,_,_,_,_,_,_,_,_,_,_,_,_,_,_,_,_,_,_,_,_,_,_,_,rfl,⟨_,_,_,_,_,_,_,_,_,rfl,RD.nil,RD.nil,RD.nil⟩,_,_,_,_,_,_,_,_,_,_,_,_,_,_,rfl,z _,z _⟩
 ·obtain ⟨l,rfl,g5⟩:=m2 h
  have g50:=g5
  have sl:=sz_thrL s1 s2 s3 s4 h
  have nz:=thrL_nz h
  obtain ⟨_,_,_,_,_,_,_,_,_,_,_,_,rfl⟩:=rl_shape g5
  refine ⟨_,_,_,_,_,_,_,_,_,_,_,_,_,rfl,(fun h=>nomatch h),fun _ V4 l4=>(r_Param (g50.le l4) (hp0.le (l1.trans (l2.trans l4))) nz sl (Sz.mono s1 (by omega)) (Sz.mono s2 (by omega)) (by omega)).mono ?_⟩
  rintro r V5 l5 e1
  have e10:=e1
  obtain ⟨_,_,_,_,_,_,rfl⟩:=e1.shape
  refine ⟨_,_,_,_,_,_,_,rfl,fun V6 l6=>(r_Param (g50.le (l4.trans (l5.trans l6))) (hq0.le (l1.trans (l2.trans (l4.trans (l5.trans l6))))) nz sl (Sz.mono s3 (by omega)) (Sz.mono s4 (by omega)) (by omega)).mono ?_⟩
  rintro r V7 l7 e2
  have e20:=e2
  obtain ⟨_,_,_,_,_,_,rfl⟩:=e2.shape
  refine ⟨_,_,_,_,_,_,_,rfl,fun V8 l8=>⟨fun h'=>absurd h' h,fun _=>⟨_,rfl,?_⟩⟩⟩
  exact ⟨_,_,_,_,_,_,_,_,_,_,_,_,_,_,_,_,_,_,_,_,_,_,_,_,_,_,rfl,g50.le (l4.trans (l5.trans (l6.trans (l7.trans l8)))),_,_,_,_,_,_,_,_,_,_,_,_,_,_,rfl,e10.le (l6.trans (l7.trans l8)),e20.le l8⟩
end Go.Proofs.Tryz
/- Contracts of package fragment; points made of ints. -/
namespace Go.Proofs.Tryz
open Go.Eng Go.Big
theorem FrSh.ex {V:View} {v:Value} {l:L3} {s:Sp} (h:RFr V v l s):∃(x1 x2:Int) (p:OA) (y1 y2:Int) (q:OA) (z1 z2:Int) (r:OA) (u1 u2:Int) (t:OA) (w1 w2:Int) (o:OA),
 v=.agg #[.int .i64 x1,.int .i64 x2,.pointer p,.int .i64 y1,.int .i64 y2,.pointer q,.int .i64 z1,.int .i64 z2,.pointer r,.int .i64 u1,.int .i64 u2,.pointer t,.int .i64 w1,.int .i64 w2,.pointer o,.bool s.a,.bool s.b]:=by
 obtain ⟨_,_,_,_,_,_,_,_,_,_,_,_,_,_,_,e,-⟩:=h; exact ⟨_,_,_,_,_,_,_,_,_,_,_,_,_,_,_,e⟩
theorem fa_shape {V:View} {v:Value} {l:L3} {s:Sp} (h:RFa V v l s):∃b1 p1 n1 c1 b2 p2 n2 c2 b3 p3 n3 c3 b p n c p' n' c' d q m e q' m' e',
 v=.agg #[.bool b1,.slice p1 n1 c1,.bool b2,.slice p2 n2 c2,.bool b3,.slice p3 n3 c3,.bool b,.slice p n c,.slice p' n' c',.bool d,.slice q m e,.slice q' m' e',.bool s.a,.bool s.b]:=by
 obtain ⟨_,_,_,_,_,_,_,_,_,_,_,_,_,_,_,_,_,_,_,_,_,_,_,_,_,_,e,-⟩:=h; exact ⟨_,_,_,_,_,_,_,_,_,_,_,_,_,_,_,_,_,_,_,_,_,_,_,_,_,_,e⟩
theorem ap_shape {V:View} {v:Value} {x y:Rat} (h:RAP V v x y):∃b p n c p' n' c' d q m e q' m' e',v=.agg #[.bool b,.slice p n c,.slice p' n' c',.bool d,.slice q m e,.slice q' m' e']:=by
 obtain ⟨_,_,_,_,_,_,_,_,_,_,_,_,_,_,e,-⟩:=h; exact ⟨_,_,_,_,_,_,_,_,_,_,_,_,_,_,e⟩
theorem pt_shape {V:View} {v:Value} {x y:Rat} (h:RPt V v x y):∃(x1 x2:Int) (p:OA) (y1 y2:Int) (q:OA),v=.agg #[.int .i64 x1,.int .i64 x2,.pointer p,.int .i64 y1,.int .i64 y2,.pointer q]:=by
 obtain ⟨_,_,_,_,_,_,e,-⟩:=h; exact ⟨_,_,_,_,_,_,e⟩
/-- The zero value of a fragment, a point of package api. -/
def FZero (v:Value):Prop:=v=.agg #[.bool false,.slice none 0 0,.bool false,.slice none 0 0,.bool false,.slice none 0 0,.bool false,.slice none 0 0,.slice none 0 0,.bool false,.slice none 0 0,.slice none 0 0,.bool false,.bool false]
def PZero (v:Value):Prop:=v=.agg #[.bool false,.slice none 0 0,.slice none 0 0,.bool false,.slice none 0 0,.slice none 0 0]
theorem c_Valid_ok {V:View} {v:Value} {l:L3} {s:Sp} (h:RFa V v l s) (ho:FOk l s) {k:Nat} (sl:SzL k l) (hs:s.sz k) (hk:4 * k + 4 < 274877906944) :
  Acts prog 30 #[v] V fun r V'=>r=.bool true:=by
 have h0:=h
 obtain ⟨_,_,_,_,_,_,_,_,_,_,_,_,_,_,_,_,_,_,_,_,_,_,_,_,_,_,rfl⟩:=fa_shape h
 refine vc_fragment_Valid _ _ _ _ _ _ _ _ _ _ _ _ _ _ _ _ _ _ _ _ _ _ _ _ _ _ _ _ V _ fun V1 l1=>(c_FrOf_ok (h0.le l1) ho sl hs (by omega)).mono ?_
 rintro r V2 l2 ⟨w,rfl,g⟩
 obtain ⟨_,_,_,_,_,_,_,_,_,_,_,_,_,_,_,rfl⟩:=FrSh.ex g
 exact ⟨_,_,_,_,_,_,_,_,_,_,_,_,_,_,_,_,_,_,rfl,fun V3 l3=>rfl⟩
theorem sz_segS {px py qx qy:Rat} {k:Nat} (s1:Sz k px) (s2:Sz k py) (s3:Sz k qx) (s4:Sz k qy) (h:¬ (px=qx/\py=qy)):(segS px py qx qy).sz (400 * k + 400):=by
 have sl:=sz_thrL s1 s2 s3 s4 h
 exact ⟨Sz.mono (sz_parL sl (Sz.mono s1 (by omega)) (Sz.mono s2 (by omega))) (by omega),Sz.mono (sz_parL sl (Sz.mono s3 (by omega)) (Sz.mono s4 (by omega))) (by omega)⟩
theorem c_FromPoints {V:View} {u v:Value} {px py qx qy:Rat} (hp:RAP V u px py) (hq:RAP V v qx qy) {k:Nat} (s1:Sz k px) (s2:Sz k py) (s3:Sz k qx) (s4:Sz k qy) (hk:2000 * k + 2000 < 274877906944) :
  Acts prog 9 #[u,v] V fun r V'=>(px=qx/\py=qy->∃l,r=.tuple #[l,.bool false]/\FZero l)/\(¬ (px=qx/\py=qy)->∃l,r=.tuple #[l,.bool true]/\RFa V' l (thrL px py qx qy) (segS px py qx qy)):=by
 have hp0:=hp
 have hq0:=hq
 obtain ⟨_,_,_,_,_,_,_,_,_,_,_,_,_,_,rfl⟩:=ap_shape hp
 obtain ⟨_,_,_,_,_,_,_,_,_,_,_,_,_,_,rfl⟩:=ap_shape hq
 refine vc_fragment_FromPoints _ _ _ _ _ _ _ _ _ _ _ _ _ _ _ _ _ _ _ _ _ _ _ _ _ _ _ _ V _ fun V1 l1=>(c_geo_PtOf (hp0.le l1) s1 s2 (by omega)).mono ?_
 rintro r V2 l2 g1
 have g10:=g1
 obtain ⟨_,_,_,_,_,_,rfl⟩:=pt_shape g1
 refine ⟨_,_,_,_,_,_,rfl,fun V3 l3=>(c_geo_PtOf (hq0.le (l1.trans (l2.trans l3))) s3 s4 (by omega)).mono ?_⟩
 rintro r V4 l4 g2
 have g20:=g2
 obtain ⟨_,_,_,_,_,_,rfl⟩:=pt_shape g2
 refine ⟨_,_,_,_,_,_,rfl,fun V5 l5=>(c_geo_Segment (g10.le (l3.trans (l4.trans l5))) (g20.le l5) s1 s2 s3 s4 (by omega)).mono ?_⟩
 rintro r V6 l6 ⟨m1,m2⟩
 by_cases h:px=qx/\py=qy
 ·obtain ⟨l,rfl,g⟩:=m1 h
  obtain ⟨_,_,_,_,_,_,_,_,_,_,_,_,_,_,_,rfl⟩:=FrSh.ex g
  exact ⟨_,_,_,_,_,_,_,_,_,_,_,_,_,_,_,_,_,_,rfl,fun _ V7 l7=>⟨fun _=>⟨_,rfl,rfl⟩,fun h'=>absurd h h'⟩,(fun h=>nomatch h)⟩
 ·obtain ⟨l,rfl,g⟩:=m2 h
  have g0:=g
  have sl:=sz_thrL s1 s2 s3 s4 h
  have ss:=sz_segS s1 s2 s3 s4 h
  obtain ⟨_,_,_,_,_,_,_,_,_,_,_,_,_,_,_,rfl⟩:=FrSh.ex g
  refine ⟨_,_,_,_,_,_,_,_,_,_,_,_,_,_,_,_,_,_,rfl,(fun h=>nomatch h),fun _ V8 l8=>(c_Fr_API (g0.le l8) (k:=400 * k + 400) ⟨Sz.mono sl.1 (by omega),Sz.mono sl.2.1 (by omega),Sz.mono sl.2.2 (by omega)⟩ ss (by omega)).mono ?_⟩
  rintro r V9 l9 f
  have f0:=f
  obtain ⟨_,_,_,_,_,_,_,_,_,_,_,_,_,_,_,_,_,_,_,_,_,_,_,_,_,_,rfl⟩:=fa_shape f
  exact ⟨_,_,_,_,_,_,_,_,_,_,_,_,_,_,_,_,_,_,_,_,_,_,_,_,_,_,_,_,rfl,fun V10 l10=>⟨fun h'=>absurd h' h,fun _=>⟨_,rfl,f0.le l10⟩⟩⟩
theorem c_end_End {V:View} {v:Value} {l:L3} {s:Sp} (h:RFa V v l s) (ho:FOk l s) {k:Nat} (sl:SzL k l) (hs:s.sz k) (hk:20 * k + 20 < 274877906944) :
  Acts prog 60 #[v,.func (.func 62) #[] #[]] V fun r V'=>∃w,r=.tuple #[w,.bool (!s.b)]/\(s.b=false->RAP V' w (atX l s.hi) (atY l s.hi))/\(s.b=true->PZero w):=by
 have h0:=h
 obtain ⟨_,_,_,_,_,_,_,_,_,_,_,_,_,_,_,_,_,_,_,_,_,_,_,_,_,_,rfl⟩:=fa_shape h
 refine vc_fragment_end_End _ _ _ _ _ _ _ _ _ _ _ _ _ _ _ _ _ _ _ _ _ _ _ _ _ _ _ _ V _ fun V1 l1=>(c_FrOf_ok (h0.le l1) ho sl hs (by omega)).mono ?_
 rintro r V2 l2 ⟨w,rfl,g⟩
 have g0:=g
 obtain ⟨_,_,_,_,_,_,_,_,_,_,_,_,_,_,_,rfl⟩:=FrSh.ex g
 refine ⟨_,_,_,_,_,_,_,_,_,_,_,_,_,_,_,_,_,_,rfl,(fun h=>nomatch h),fun _ V4 l4=>(c_Fr_End (g0.le l4) sl hs (by omega)).mono ?_⟩
 rintro r V5 l5 ⟨w,rfl,f⟩
 have f0:=f
 obtain ⟨_,_,_,_,_,_,rfl⟩:=pt_shape f
 refine ⟨_,_,_,_,_,_,_,rfl,fun hb V6 l6=>?_,fun hb V7 l7=>?_⟩
 ·have ha:s.b=true:=by simpa using hb
  rw [ha]
  exact ⟨_,rfl,(fun h=>nomatch h),fun _=>rfl⟩
 ·have ha:s.b=false:=by simpa using hb
  rw [ha] at f0
  refine (c_geo_Pt_API (f0.le l7) (k:=20 * k + 19) (sz_atX sl hs.2) (sz_atY sl hs.2) (by omega)).mono ?_
  rintro r V8 l8 e
  have e0:=e
  obtain ⟨_,_,_,_,_,_,_,_,_,_,_,_,_,_,rfl⟩:=ap_shape e
  exact ⟨_,_,_,_,_,_,_,_,_,_,_,_,_,_,rfl,fun V9 l9=>⟨_,by rw [ha]; rfl,fun _=>e0.le l9,fun h=>by rw [ha] at h; cases h⟩⟩
theorem end_shape {V:View} {w:Value} {x y:Rat} {c:Bool} (h1:c=false->RAP V w x y) (h2:c=true->PZero w):∃b p n c p' n' c' d q m e q' m' e',w=.agg #[.bool b,.slice p n c,.slice p' n' c',.bool d,.slice q m e,.slice q' m' e']:=by
 cases c with
 | false=>exact ap_shape (h1 rfl)
 | true=>exact ⟨_,_,_,_,_,_,_,_,_,_,_,_,_,_,h2 rfl⟩
theorem c_End {V:View} {v:Value} {l:L3} {s:Sp} (h:RFa V v l s) (ho:FOk l s) {k:Nat} (sl:SzL k l) (hs:s.sz k) (hk:20 * k + 20 < 274877906944) :
  Acts prog 17 #[v] V fun r V'=>∃w,r=.tuple #[w,.bool (!s.b)]/\(s.b=false->RAP V' w (atX l s.hi) (atY l s.hi))/\(s.b=true->PZero w):=by
 have h0:=h
 obtain ⟨_,_,_,_,_,_,_,_,_,_,_,_,_,_,_,_,_,_,_,_,_,_,_,_,_,_,rfl⟩:=fa_shape h
 refine vc_fragment_End _ _ _ _ _ _ _ _ _ _ _ _ _ _ _ _ _ _ _ _ _ _ _ _ _ _ _ _ V _ fun V1 l1=>(c_end_End (h0.le l1) ho sl hs hk).mono ?_
 rintro r V2 l2 ⟨w,rfl,g1,g2⟩
 have g10:=g1
 have g20:=g2
 obtain ⟨_,_,_,_,_,_,_,_,_,_,_,_,_,_,rfl⟩:=end_shape g1 g2
 exact ⟨_,_,_,_,_,_,_,_,_,_,_,_,_,_,_,rfl,fun V3 l3=>⟨_,rfl,fun e=>(g10 e).le l3,g20⟩⟩
theorem c_FromInts {V:View} (x y:Int) (h0:-1000<=x) (h1:x<=1000) (h2:-1000<=y) (h3:y<=1000) :
  Acts prog 69 #[.int .i64 x,.int .i64 y] V fun r V'=>RAP V' r (x:Rat) (y:Rat):=by
 have sx:Sz 10 (x:Rat):=sz_int (by omega) (by omega)
 have sy:Sz 10 (y:Rat):=sz_int (by omega) (by omega)
 refine vc_point_FromInts x y V _ fun V1 l1=>(c_frac_Int x (by omega) (by omega)).mono ?_
 rintro r V2 l2 g1
 have g10:=g1
 obtain ⟨_,_,_,rfl⟩:=g1.shape
 refine ⟨_,_,_,rfl,fun V3 l3=>(c_frac_Int y (by omega) (by omega)).mono ?_⟩
 rintro r V4 l4 g2
 have g20:=g2
 obtain ⟨_,_,_,rfl⟩:=g2.shape
 refine ⟨_,_,_,rfl,fun V5 l5=>(c_geo_Pt_API ⟨_,_,_,_,_,_,rfl,g10.le (l3.trans (l4.trans l5)),g20.le l5⟩ sx sy (by omega)).mono ?_⟩
 rintro r V6 l6 e
 have e0:=e
 obtain ⟨_,_,_,_,_,_,_,_,_,_,_,_,_,_,rfl⟩:=ap_shape e
 exact ⟨_,_,_,_,_,_,_,_,_,_,_,_,_,_,rfl,fun V7 l7=>e0.le l7⟩
theorem c_point_Same {V:View} {v w:Value} {x y x' y':Rat} (hp:RAP V v x y) (hq:RAP V w x' y') {k:Nat} (s1:Sz k x) (s2:Sz k y) (s3:Sz k x') (s4:Sz k y') (hk:2 * k < 1099511627776) :
  Acts prog 70 #[v,w] V fun r V'=>r=.bool (decide (x=x'/\y=y')):=by
 have hp0:=hp
 have hq0:=hq
 obtain ⟨_,_,_,_,_,_,_,_,_,_,_,_,_,_,rfl⟩:=ap_shape hp
 obtain ⟨_,_,_,_,_,_,_,_,_,_,_,_,_,_,rfl⟩:=ap_shape hq
 refine vc_point_Same _ _ _ _ _ _ _ _ _ _ _ _ _ _ _ _ _ _ _ _ _ _ _ _ _ _ _ _ V _ fun V1 l1=>(c_geo_PtOf (hp0.le l1) s1 s2 (by omega)).mono ?_
 rintro r V2 l2 g1
 have g10:=g1
 obtain ⟨_,_,_,_,_,_,rfl⟩:=pt_shape g1
 refine ⟨_,_,_,_,_,_,rfl,fun V3 l3=>(c_geo_PtOf (hq0.le (l1.trans (l2.trans l3))) s3 s4 (by omega)).mono ?_⟩
 rintro r V4 l4 g2
 have g20:=g2
 obtain ⟨_,_,_,_,_,_,rfl⟩:=pt_shape g2
 refine ⟨_,_,_,_,_,_,rfl,fun V5 l5=>(c_geo_Pt_Equal (g10.le (l3.trans (l4.trans l5))) (g20.le l5) s1 s2 s3 s4 hk).mono ?_⟩
 rintro r V6 l6 rfl
 exact ⟨_,rfl,fun V7 l7=>rfl⟩
end Go.Proofs.Tryz
/- Contracts: the tape's spans and fragments. -/
namespace Go.Proofs.Tryz
open Go.Eng Go.Big
theorem gcdQ_num_nonneg (x y:Rat):0<=(gcdQ x y).num:=by
 unfold gcdQ
 rw [Rat.num_mkRat]
 split
 ·omega
 ·exact Int.ediv_nonneg (Int.natCast_nonneg _) (Int.natCast_nonneg _)
/-- The parameters of the ends of a segment differ by the divisor. -/
theorem seg_diff {px py qx qy:Rat} (h:¬ (px=qx/\py=qy)):parL (thrL px py qx qy) qx qy - parL (thrL px py qx qy) px py=gcdQ (gcdQ (-(qy - py)) (qx - px)) (-(-(qy - py) * px + (qx - px) * py)):=by
 obtain ⟨hg,e1,e2,-⟩:=mkLn_spec (a:=-(qy - py)) (b:=qx - px) (c:=-(-(qy - py) * px + (qx - px) * py)) (thrL_ne h)
 have hn:=(thrL_nz h).norm
 change _=((thrL px py qx qy).1:Rat) at e1
 change _=((thrL px py qx qy).2.1:Rat) at e2
 generalize gcdQ (gcdQ (-(qy - py)) (qx - px)) (-(-(qy - py) * px + (qx - px) * py))=g at *
 have h1:=Rat.mul_inv_cancel g hg
 have h2:=Rat.mul_inv_cancel _ hn
 unfold parL
 have hN:normL (thrL px py qx qy)=((qy - py) * (qy - py) + (qx - px) * (qx - px)) * (g⁻¹ * g⁻¹):=by
  unfold normL; rw [← e1,← e2]; grind
 rw [← e1,← e2]
 generalize (normL (thrL px py qx qy))⁻¹=N at *
 generalize g⁻¹=i at *
 rw [hN] at h2
 grind
theorem seg_emp {px py qx qy:Rat} (h:¬ (px=qx/\py=qy)):(segS px py qx qy).emp=false:=by
 obtain ⟨hg,-⟩:=mkLn_spec (a:=-(qy - py)) (b:=qx - px) (c:=-(-(qy - py) * px + (qx - px) * py)) (thrL_ne h)
 have hd:=seg_diff h
 have hp:=gcdQ_num_nonneg (gcdQ (-(qy - py)) (qx - px)) (-(-(qy - py) * px + (qx - px) * py))
 unfold segS Sp.emp
 dsimp only
 generalize gcdQ (gcdQ (-(qy - py)) (qx - px)) (-(-(qy - py) * px + (qx - px) * py))=g at *
 have e:cmpQ (parL (thrL px py qx qy) px py) (parL (thrL px py qx qy) qx qy)=- g.num.sign:=by
  rw [cmpQ_swap,← hd]; rfl
 rw [e]
 have hn:g.num≠0:=num_zero hg
 have:g.num.sign=1:=Int.sign_eq_one_of_pos (by omega)
 rw [this]
 rfl
theorem seg_ok {px py qx qy:Rat} (h:¬ (px=qx/\py=qy)):FOk (thrL px py qx qy) (segS px py qx qy):=⟨okL_thrL h,⟨(fun h=>nomatch h),(fun h=>nomatch h)⟩,seg_emp h⟩
theorem s_half:∀i:Fin 6,(mkRat ((i.1:Int) + 1) 2).num.sign=1/\Sz 10 (mkRat ((i.1:Int) + 1) 2):=by unfold Sz; decide +kernel
theorem rq0 (V:View):RQ V (.agg #[.bool false,.slice none 0 0,.slice none 0 0]) 0:=by have:=RQ.zero (V:=V); simpa using this
theorem sz0 (k:Nat) (hk:0 < k):Sz k (0:Rat):=⟨by show (0:Int).natAbs < _; exact Nat.lt_of_lt_of_le (by decide) (Nat.one_le_two_pow),Nat.one_lt_two_pow (by omega)⟩
theorem c_ref06_Full {V:View}:Acts prog 81 #[] V fun r V'=>RSs V' r ⟨0,0,true,true⟩:=
 vc_ref06_Full V _ fun V1 l1=>⟨_,_,_,_,_,_,_,_,_,_,_,_,_,_,rfl,rq0 _,rq0 _⟩
theorem rs_shape {V:View} {v:Value} {s:Sp} (h:RSs V v s):∃b p n c p' n' c' d q m e q' m' e',v=.agg #[.bool b,.slice p n c,.slice p' n' c',.bool d,.slice q m e,.slice q' m' e',.bool s.a,.bool s.b]:=by
 obtain ⟨_,_,_,_,_,_,_,_,_,_,_,_,_,_,e,-⟩:=h; exact ⟨_,_,_,_,_,_,_,_,_,_,_,_,_,_,e⟩
theorem rf_shape {V:View} {v:Value} {l:L3} {s:Sp} (h:RF V v l s):∃b1 p1 n1 c1 b2 p2 n2 c2 b3 p3 n3 c3 b p n c p' n' c' d q m e q' m' e',
 v=.agg #[.bool b1,.slice p1 n1 c1,.bool b2,.slice p2 n2 c2,.bool b3,.slice p3 n3 c3,.bool b,.slice p n c,.slice p' n' c',.bool d,.slice q m e,.slice q' m' e',.bool s.a,.bool s.b]:=by
 obtain ⟨_,_,_,_,_,_,_,_,_,_,_,_,_,_,_,_,_,_,_,_,_,_,_,_,_,_,e,-⟩:=h; exact ⟨_,_,_,_,_,_,_,_,_,_,_,_,_,_,_,_,_,_,_,_,_,_,_,_,_,_,e⟩
theorem c_S {V:View} {tb:Nat} {p:OA} {n c:Nat} {at_:Int} (hr:Rdl V p n) (hn:n<=400) (hw:TpAt V tb p n c at_) (hx:V.X tb) (h0:0<=at_) :
  Acts prog 34 #[.pointer (some ⟨tb,0,none⟩)] V fun r V'=>∃(s:Sp) (at':Int),RSs V' r s/\s.can/\s.emp=false/\s.sz 40/\0<=at'/\TpAt V' tb p n c at':=by
 refine vc_scene_Tape_S tb p n c at_ V _ hw hx fun V1 l1 bk1 e1 h1=>(c_Q (V:=V1.lend [bk1]) (hr.le fun b o h=>l1 b o h) hn e1 ⟨by simp,h1⟩ h0).mono ?_
 rintro r V2 l2 ⟨lo,at1,hq,sq,t1,hw1⟩
 have hq0:=hq
 obtain ⟨qa,qb,qc,qd,qe,qf,rfl⟩:=hq.shape
 refine ⟨_,_,_,_,_,_,_,rfl,_,_,_,_,hw1,fun V3 l3 bk7 e3 h3=>(c_Next (V:=V3.lend [bk7]) 6 (hr.le fun b o h=>l3 b o (l2 b o (l1 b o h))) hn e3 ⟨by simp,h3⟩ t1 (by omega) (by omega)).mono ?_⟩
 rintro r V4 l4 ⟨x,at2,rfl,x0,x1,t2,hw2⟩
 obtain ⟨i,rfl⟩:∃i:Nat,x=i:=⟨x.toNat,by omega⟩
 obtain ⟨z1,z2⟩:=s_half ⟨i,by omega⟩
 dsimp only at z1 z2
 have w1:i64.wrap (1 + (i:Int))=(i:Int) + 1:=by rw [i64w (by omega)]; omega
 refine ⟨_,rfl,_,_,_,_,hw2,fun V5 l5=>?_⟩
 rw [w1]
 refine (c_num_Part ((i:Int) + 1) 2 (by omega) (by omega) (by omega) (by omega)).mono ?_
 generalize mkRat ((i:Int) + 1) 2=q at *
 rintro r V6 l6 gp
 have gp0:=gp
 obtain ⟨_,_,_,_,_,_,rfl⟩:=gp.shape
 have l27:∀{V7:View},V6.Le V7->V2.Le V7:=fun l7 b o h=>l7 b o (l6 b o (l5 b o (l4 b o (l3 b o h))))
 refine ⟨_,_,_,_,_,_,_,rfl,fun V7 l7=>(c_num_Plus (hq0.le (l27 l7)) (gp0.le l7) sq z2 (by omega)).mono ?_⟩
 rintro r V8 l8 gh
 have gh0:=gh
 obtain ⟨ga,gb,gc,gd,ge,gf',rfl⟩:=gh.shape
 have sh:Sz 21 (lo + q):=sq.add z2
 have l02:∀{V9:View},V8.Le V9->V.Le V9:=fun l9 b o h=>l9 b o (l8 b o (l7 b o (l6 b o (l5 b o (l4 b o (l3 b o (l2 b o (l1 b o h))))))))
 refine ⟨_,_,_,_,_,_,_,rfl,fun V9 l9 bk17 e9 h9=>(c_Next (V:=V9.lend [bk17]) 8 (hr.le fun b o h=>l02 l9 b o h) hn e9 ⟨by simp,h9⟩ t2 (by omega) (by omega)).mono ?_⟩
 rintro r V10 l10 ⟨y,at3,rfl,y0,y1,t3,hw3⟩
 have l8_10:∀{V11:View},V10.shut.Le V11->V8.Le V11:=fun l11 b o h=>l11 b o (l10 b o (l9 b o h))
 have l2_10:∀{V11:View},V10.shut.Le V11->V2.Le V11:=fun l11=>(l27 l7).trans (l8.trans (l8_10 l11))
 have full:∀(V11 W:View),V10.shut.Le V11->V11.Le W->∀at4,0<=at4->TpAt W tb p n c at4->∃(s:Sp) (at':Int),RSs W (.agg #[.bool (decide (lo.num < 0)),.slice qa qb qc,.slice qd qe qf,.bool (decide ((lo + q).num < 0)),.slice ga gb gc,.slice gd ge gf',.bool false,.bool false]) s/\s.can/\s.emp=false/\s.sz 40/\0<=at'/\TpAt W tb p n c at':=fun V11 W l11 lw at4 t4 e4=>
  ⟨⟨lo,lo + q,false,false⟩,at4,⟨_,_,_,_,_,_,_,_,_,_,_,_,_,_,rfl,hq0.le ((l2_10 l11).trans lw),gh0.le ((l8_10 l11).trans lw)⟩,⟨(fun h=>nomatch h),(fun h=>nomatch h)⟩,by
   have e:cmpQ lo (lo + q)=- q.num.sign:=by
    rw [cmpQ_swap]
    unfold cmpQ
    rw [show lo + q - lo=q from by grind]
   unfold Sp.emp
   dsimp only
   rw [e,z1]
   rfl,⟨Sz.mono sq (by omega),Sz.mono sh (by omega)⟩,t4,e4⟩
 refine ⟨_,rfl,_,_,_,_,hw3,fun _ V11 l11 e11=>?_,fun _=>⟨fun _ V12 l12 e12=>?_,fun _=>⟨fun _ V13 l13 bk21 e13 h13=>(c_Next (V:=V13.lend [bk21]) 4 (hr.le fun b o h=>l13 b o (l10 b o (l02 l9 b o h))) hn e13 ⟨by simp,h13⟩ t3 (by omega) (by omega)).mono ?_,fun _ V19 l19 e19=>full _ _ l19 (View.Le.refl _) at3 t3 e19⟩⟩⟩
 ·exact ⟨⟨0,lo + q,true,false⟩,at3,⟨_,_,_,_,_,_,_,_,_,_,_,_,_,_,rfl,rq0 _,gh0.le (l8_10 l11)⟩,⟨fun _=>rfl,(fun h=>nomatch h)⟩,rfl,⟨sz0 _ (by omega),Sz.mono sh (by omega)⟩,t3,e11⟩
 ·exact ⟨⟨lo,0,false,true⟩,at3,⟨_,_,_,_,_,_,_,_,_,_,_,_,_,_,rfl,hq0.le (l2_10 l12),rq0 _⟩,⟨(fun h=>nomatch h),fun _=>rfl⟩,rfl,⟨Sz.mono sq (by omega),sz0 _ (by omega)⟩,t3,e12⟩
 ·rintro r V14 l14 ⟨z,at4,rfl,-,-,t4,hw4⟩
  refine ⟨_,rfl,_,_,_,_,hw4,fun _ V15 l15=>c_ref06_Full.mono ?_,fun _ V18 l18 e18=>full _ _ l13 (fun b o h=>l18 b o (l14 b o h)) at4 t4 e18⟩
  rintro r V16 l16 gf
  have gf0:=gf
  obtain ⟨_,_,_,_,_,_,_,_,_,_,_,_,_,_,rfl⟩:=rs_shape gf
  exact ⟨_,_,_,_,_,_,_,_,_,_,_,_,_,_,_,_,rfl,fun V17 l17 e17=>⟨⟨0,0,true,true⟩,at4,gf0.le l17,⟨fun _=>rfl,fun _=>rfl⟩,rfl,⟨sz0 _ (by omega),sz0 _ (by omega)⟩,t4,e17⟩⟩
theorem c_F {V:View} {tb:Nat} {p:OA} {n c:Nat} {at_:Int} (hr:Rdl V p n) (hn:n<=400) (hw:TpAt V tb p n c at_) (hx:V.X tb) (h0:0<=at_) :
  Acts prog 14 #[.pointer (some ⟨tb,0,none⟩)] V fun r V'=>∃(l:L3) (s:Sp) (at':Int),RF V' r l s/\FOk l s/\SzL 5000 l/\s.sz 5000/\0<=at'/\TpAt V' tb p n c at':=by
 refine vc_scene_Tape_F tb p n c at_ V _ hw hx fun V1 l1 bk1 e1 h1=>(c_Next (V:=V1.lend [bk1]) 3 (hr.le fun b o h=>l1 b o h) hn e1 ⟨by simp,h1⟩ h0 (by omega) (by omega)).mono ?_
 rintro r V2 l2 ⟨x,at1,rfl,-,-,t1,hw1⟩
 refine ⟨_,rfl,_,_,_,_,hw1,fun _ V3 l3 bk5 e3 h3=>(c_L (V:=V3.lend [bk5]) (hr.le fun b o h=>l3 b o (l2 b o (l1 b o h))) hn e3 ⟨by simp,h3⟩ t1).mono ?_,fun _ V8 l8 bk25 e8 h8=>(c_P (V:=V8.lend [bk25]) (hr.le fun b o h=>l8 b o (l2 b o (l1 b o h))) hn e8 ⟨by simp,h8⟩ t1).mono ?_⟩
 ·rintro r V4 l4 ⟨l,at2,gl,ho,hb,t2,hw2⟩
  have gl0:=gl
  obtain ⟨_,_,_,_,_,_,_,_,_,_,_,_,rfl⟩:=rl_shape gl
  refine ⟨_,_,_,_,_,_,_,_,_,_,_,_,rfl,_,_,_,_,hw2,fun V5 l5 bk14 e5 h5=>(c_S (V:=V5.lend [bk14]) (hr.le fun b o h=>l5 b o (l4 b o (l3 b o (l2 b o (l1 b o h))))) hn e5 ⟨by simp,h5⟩ t2).mono ?_⟩
  rintro r V6 l6 ⟨s,at3,gs,hc,hne,ss,t3,hw3⟩
  have gs0:=gs
  obtain ⟨_,_,_,_,_,_,_,_,_,_,_,_,_,_,rfl⟩:=rs_shape gs
  obtain ⟨z1,z2,z3⟩:=hb.sz
  exact ⟨_,_,_,_,_,_,_,_,_,_,_,_,_,_,_,_,rfl,_,_,_,_,hw3,fun V7 l7 e7=>⟨l,s,at3,⟨_,_,_,_,_,_,_,_,_,_,_,_,_,_,_,_,_,_,_,_,_,_,_,_,_,_,rfl,gl0.le fun b o h=>l7 b o (l6 b o (l5 b o h)),gs0.le fun b o h=>l7 b o h⟩,⟨ho,hc,hne⟩,⟨Sz.mono z1 (by omega),Sz.mono z2 (by omega),Sz.mono z3 (by omega)⟩,⟨Sz.mono ss.1 (by omega),Sz.mono ss.2 (by omega)⟩,t3,e7⟩⟩
 ·rintro r V9 l9 ⟨x,y,at2,hp,hx1,hy1,t2,hw2⟩
  have hp0:=hp
  obtain ⟨_,_,_,_,_,_,_,_,_,_,_,_,_,_,rfl⟩:=rp_shape hp
  refine ⟨_,_,_,_,_,_,_,_,_,_,_,_,_,_,rfl,_,_,_,_,hw2,fun V10 l10=>(c_num_Of 1 (by omega) (by omega)).mono ?_⟩
  rintro r V11 l11 hq
  have hq0:=hq
  obtain ⟨_,_,_,_,_,_,rfl⟩:=hq.shape
  refine ⟨_,_,_,_,_,_,_,rfl,fun V12 l12 bk37 e12 h12=>(c_V (V:=V12.lend [bk37]) (hr.le fun b o h=>l12 b o (l11 b o (l10 b o (l9 b o (l8 b o (l2 b o (l1 b o h))))))) hn e12 ⟨by simp,h12⟩ t2).mono ?_⟩
  rintro r V13 l13 ⟨u,w,at3,hv,hu1,hw1',hne,t3,hw3⟩
  have hv0:=hv
  obtain ⟨_,_,_,_,_,_,_,_,_,_,_,_,_,_,rfl⟩:=rp_shape hv
  refine ⟨_,_,_,_,_,_,_,_,_,_,_,_,_,_,rfl,_,_,_,_,hw3,fun V14 l14=>?_⟩
  have l9_14:V9.Le V14:=fun b o h=>l14 b o (l13 b o (l12 b o (l11 b o (l10 b o h))))
  have l11_14:V11.Le V14:=fun b o h=>l14 b o (l13 b o (l12 b o h))
  have l13_14:V13.Le V14:=fun b o h=>l14 b o h
  refine (c_ref04_Add (hp0.le l9_14) (hq0.le l11_14) (hv0.le l13_14) (k:=10) (m:=10) (sz4 (by omega)) (sz4 (by omega)) (sz4 (by omega)) (sz4 (by omega)) (sz4 (by omega)) (by omega)).mono ?_
  rintro r V15 l15 hs
  have f1:(x:Rat) + ((1:Int):Rat) * (u:Rat)=((x + u:Int):Rat):=by rw [← Rat.intCast_mul,← Rat.intCast_add,Int.one_mul]
  have f2:(y:Rat) + ((1:Int):Rat) * (w:Rat)=((y + w:Int):Rat):=by rw [← Rat.intCast_mul,← Rat.intCast_add,Int.one_mul]
  rw [f1,f2] at hs
  have hs0:=hs
  obtain ⟨_,_,_,_,_,_,_,_,_,_,_,_,_,_,rfl⟩:=rp_shape hs
  have ne:¬ ((x:Rat)=((x + u:Int):Rat)/\(y:Rat)=((y + w:Int):Rat)):=by
   rintro ⟨e1,e2⟩
   have e1:x=x + u:=by exact_mod_cast e1
   have e2:y=y + w:=by exact_mod_cast e2
   exact hne ⟨by omega,by omega⟩
  have s1:Sz 10 (x:Rat):=sz4 (by omega)
  have s2:Sz 10 (y:Rat):=sz4 (by omega)
  have s3:Sz 10 ((x + u:Int):Rat):=sz4 (by omega)
  have s4:Sz 10 ((y + w:Int):Rat):=sz4 (by omega)
  refine ⟨_,_,_,_,_,_,_,_,_,_,_,_,_,_,rfl,fun V16 l16=>(c_ref06_Segment (hp0.le (l9_14.trans (l15.trans l16))) (hs0.le l16) s1 s2 s3 s4 (by omega) (by omega)).mono ?_⟩
  rintro r V17 l17 ⟨-,m2⟩
  obtain ⟨f,rfl,gf⟩:=m2 ne
  have gf0:=gf
  have sl:=sz_thrL s1 s2 s3 s4 ne
  have ss:=sz_segS s1 s2 s3 s4 ne
  obtain ⟨_,_,_,_,_,_,_,_,_,_,_,_,_,_,_,_,_,_,_,_,_,_,_,_,_,_,rfl⟩:=rf_shape gf
  exact ⟨_,_,_,_,_,_,_,_,_,_,_,_,_,_,_,_,_,_,_,_,_,_,_,_,_,_,_,_,_,rfl,fun V18 l18 e18=>⟨_,_,at3,gf0.le l18,seg_ok ne,⟨Sz.mono sl.1 (by omega),Sz.mono sl.2.1 (by omega),Sz.mono sl.2.2 (by omega)⟩,⟨Sz.mono ss.1 (by omega),Sz.mono ss.2 (by omega)⟩,t3,e18⟩⟩
end Go.Proofs.Tryz
/- A new block that is handed back; scene.New. -/
namespace Go.Proofs.Tryz
open Go.Eng Go.Big
/-- All that is there is hidden. -/
def hideAll (V:View):View:=⟨V.w,fun b=>b < V.w.heap.size,fun _=>False,fun _ h=>h,fun _ h=>h.elim⟩
/-- A block that is seen when all was hidden is new. -/
theorem acts_fresh {f:FuncId} {args:Array Value} {V:View} {o:Obj} (h:Acts prog f args (hideAll V) fun r V'=>∃bk,r=.pointer (some ⟨bk,0,none⟩)/\V'.blk bk o) :
  Acts prog f args V fun r V'=>∃bk,r=.pointer (some ⟨bk,0,none⟩)/\V.w.heap.size<=bk/\V'.blk bk o:=
 ⟨h.1,h.2.mono fun _ _ ⟨_,he,hx,bk,hr,hb⟩=>⟨_,he,⟨hx.size,fun b hb _=>hx.blk b hb (fun h=>h),hx.os,hx.tape,hx.out⟩,bk,hr,Nat.le_of_not_lt hb.1,fun hh=>hb.1 (V.hH bk hh),hb.2⟩⟩
theorem c_scene_New {V:View} {lp:OA} {ln lc:Nat} (hc:ln<=lc) :
  Acts prog 7 #[.slice lp ln lc] V fun r V'=>∃bk,r=.pointer (some ⟨bk,0,none⟩)/\V.w.heap.size<=bk/\V'.blk bk (.cells #[.slice lp (min ln 400) lc,.int .i64 0] 105 (0,0)):=by
 refine acts_fresh (vc_scene_New lp ln lc (hideAll V) _ ?_)
 have e:minI (ln:Int) 400=((min ln 400:Nat):Int):=by
  unfold minI
  simp only [Nat.min_def]
  split <;> split <;> omega
 rw [e,Int.toNat_natCast]
 have:=Nat.min_le_left ln 400
 exact ⟨⟨by omega,by omega⟩,fun V1 l1 bk hb=>⟨bk,rfl,hb⟩⟩
/-- What was seen is seen behind a new block that is hidden. -/
theorem le_fresh {V1 V2 V3:View} {bk:Nat} (l2:V1.Le V2) (hfr:V1.w.heap.size<=bk) (l3:(V2.hide bk).Le V3):V1.Le V3:=fun b o h=>l3 b o ⟨fun hh=>hh.elim (l2 b o h).1 fun e=>by
  have hlt:b < V1.w.heap.size:=by
   rcases Nat.lt_or_ge b V1.w.heap.size with h' | h'
   ·exact h'
   ·have:=h.2; rw [Array.getElem?_eq_none h'] at this; cases this
  have:=e.1
  omega,(l2 b o h).2⟩
end Go.Proofs.Tryz
/- By program: the conditions of the functions, from their loaded code. -/
namespace Go.Proofs.Tryz
open Go.Eng
set_option maxRecDepth 100000
theorem vc_law07_known  (V:View) (R:Value->View->Prop)
  (h:(∀V1,V.Le V1->Acts prog 69 #[.int .i64 0,.int .i64 0] V1 fun r1_ V2=>∃b1_,∃p2_ n2_ c2_,∃p3_ n3_ c3_,∃b4_,∃p5_ n5_ c5_,∃p6_ n6_ c6_,r1_=.agg #[.bool b1_,.slice p2_ n2_ c2_,.slice p3_ n3_ c3_,.bool b4_,.slice p5_ n5_ c5_,.slice p6_ n6_ c6_]/\(∀V3,V2.Le V3->Acts prog 69 #[.int .i64 2,.int .i64 0] V3 fun r3_ V4=>∃b7_,∃p8_ n8_ c8_,∃p9_ n9_ c9_,∃b10_,∃p11_ n11_ c11_,∃p12_ n12_ c12_,r3_=.agg #[.bool b7_,.slice p8_ n8_ c8_,.slice p9_ n9_ c9_,.bool b10_,.slice p11_ n11_ c11_,.slice p12_ n12_ c12_]/\(∀V5,V4.Le V5->Acts prog 9 #[.agg #[.bool b1_,.slice p2_ n2_ c2_,.slice p3_ n3_ c3_,.bool b4_,.slice p5_ n5_ c5_,.slice p6_ n6_ c6_],.agg #[.bool b7_,.slice p8_ n8_ c8_,.slice p9_ n9_ c9_,.bool b10_,.slice p11_ n11_ c11_,.slice p12_ n12_ c12_]] V5 fun r5_ V6=>∃b13_,∃p14_ n14_ c14_,∃b15_,∃p16_ n16_ c16_,∃b17_,∃p18_ n18_ c18_,∃b19_,∃p20_ n20_ c20_,∃p21_ n21_ c21_,∃b22_,∃p23_ n23_ c23_,∃p24_ n24_ c24_,∃b25_,∃b26_,∃b27_,r5_=.tuple #[.agg #[.bool b13_,.slice p14_ n14_ c14_,.bool b15_,.slice p16_ n16_ c16_,.bool b17_,.slice p18_ n18_ c18_,.bool b19_,.slice p20_ n20_ c20_,.slice p21_ n21_ c21_,.bool b22_,.slice p23_ n23_ c23_,.slice p24_ n24_ c24_,.bool b25_,.bool b26_],.bool b27_]/\(∀V7,V6.Le V7->Acts prog 17 #[.agg #[.bool b13_,.slice p14_ n14_ c14_,.bool b15_,.slice p16_ n16_ c16_,.bool b17_,.slice p18_ n18_ c18_,.bool b19_,.slice p20_ n20_ c20_,.slice p21_ n21_ c21_,.bool b22_,.slice p23_ n23_ c23_,.slice p24_ n24_ c24_,.bool b25_,.bool b26_]] V7 fun r7_ V8=>∃b28_,∃p29_ n29_ c29_,∃p30_ n30_ c30_,∃b31_,∃p32_ n32_ c32_,∃p33_ n33_ c33_,∃b34_,r7_=.tuple #[.agg #[.bool b28_,.slice p29_ n29_ c29_,.slice p30_ n30_ c30_,.bool b31_,.slice p32_ n32_ c32_,.slice p33_ n33_ c33_],.bool b34_]/\((b27_=true->((b34_=true->(∀V9,V8.Le V9->Acts prog 30 #[.agg #[.bool b13_,.slice p14_ n14_ c14_,.bool b15_,.slice p16_ n16_ c16_,.bool b17_,.slice p18_ n18_ c18_,.bool b19_,.slice p20_ n20_ c20_,.slice p21_ n21_ c21_,.bool b22_,.slice p23_ n23_ c23_,.slice p24_ n24_ c24_,.bool b25_,.bool b26_]] V9 fun r9_ V10=>∃b35_,r9_=.bool b35_/\((b35_=true->(∀V11,V10.Le V11->Acts prog 69 #[.int .i64 2,.int .i64 0] V11 fun r11_ V12=>∃b36_,∃p37_ n37_ c37_,∃p38_ n38_ c38_,∃b39_,∃p40_ n40_ c40_,∃p41_ n41_ c41_,r11_=.agg #[.bool b36_,.slice p37_ n37_ c37_,.slice p38_ n38_ c38_,.bool b39_,.slice p40_ n40_ c40_,.slice p41_ n41_ c41_]/\(∀V13,V12.Le V13->Acts prog 70 #[.agg #[.bool b28_,.slice p29_ n29_ c29_,.slice p30_ n30_ c30_,.bool b31_,.slice p32_ n32_ c32_,.slice p33_ n33_ c33_],.agg #[.bool b36_,.slice p37_ n37_ c37_,.slice p38_ n38_ c38_,.bool b39_,.slice p40_ n40_ c40_,.slice p41_ n41_ c41_]] V13 fun r13_ V14=>∃b42_,r13_=.bool b42_/\(∀V15,V14.Le V15->R (.bool b42_) V15))))/\(b35_=false->(∀V16,V10.Le V16->R (.bool false) V16)))))/\(b34_=false->(∀V17,V8.Le V17->R (.bool false) V17))))/\(b27_=false->(∀V18,V8.Le V18->R (.bool false) V18)))))))) :
  Acts prog 23 #[] V R:=
 fn_does (LF:=LF0) (RF:=[1000007]) (β0:=(fun _=>0)) tab_ok mixed [] [] func23 (by kernel_rfl)
  []
  [] (by kernel_rfl) trivial h (by kernel_rfl)
end Go.Proofs.Tryz
/- Law 07: same, same0, known; the law FragmentEnds. -/
namespace Go.Proofs.Tryz
open Go.Eng Go.Big
theorem at_known:atX (thrL ((0:Int):Rat) ((0:Int):Rat) ((2:Int):Rat) ((0:Int):Rat)) (segS ((0:Int):Rat) ((0:Int):Rat) ((2:Int):Rat) ((0:Int):Rat)).hi=((2:Int):Rat) /\
  atY (thrL ((0:Int):Rat) ((0:Int):Rat) ((2:Int):Rat) ((0:Int):Rat)) (segS ((0:Int):Rat) ((0:Int):Rat) ((2:Int):Rat) ((0:Int):Rat)).hi=((0:Int):Rat):=by decide +kernel
theorem c_known7 {V:View}:Acts prog 23 #[] V fun r V'=>r=.bool true:=by
 have s0:Sz 10 ((0:Int):Rat):=sz4 (by omega)
 have s2:Sz 10 ((2:Int):Rat):=sz4 (by omega)
 have ne:¬ (((0:Int):Rat)=((2:Int):Rat)/\((0:Int):Rat)=((0:Int):Rat)):=by decide
 have sl:=sz_thrL s0 s0 s2 s0 ne
 have ss:=sz_segS s0 s0 s2 s0 ne
 have sl':SzL 5000 (thrL ((0:Int):Rat) ((0:Int):Rat) ((2:Int):Rat) ((0:Int):Rat)):=⟨Sz.mono sl.1 (by omega),Sz.mono sl.2.1 (by omega),Sz.mono sl.2.2 (by omega)⟩
 have ss':(segS ((0:Int):Rat) ((0:Int):Rat) ((2:Int):Rat) ((0:Int):Rat)).sz 5000:=⟨Sz.mono ss.1 (by omega),Sz.mono ss.2 (by omega)⟩
 have ok:=seg_ok ne
 refine vc_law07_known V _ fun V1 l1=>(c_FromInts 0 0 (by omega) (by omega) (by omega) (by omega)).mono ?_
 rintro r V2 l2 g1
 have g10:=g1
 obtain ⟨_,_,_,_,_,_,_,_,_,_,_,_,_,_,rfl⟩:=ap_shape g1
 refine ⟨_,_,_,_,_,_,_,_,_,_,_,_,_,_,rfl,fun V3 l3=>(c_FromInts 2 0 (by omega) (by omega) (by omega) (by omega)).mono ?_⟩
 rintro r V4 l4 g2
 have g20:=g2
 obtain ⟨_,_,_,_,_,_,_,_,_,_,_,_,_,_,rfl⟩:=ap_shape g2
 refine ⟨_,_,_,_,_,_,_,_,_,_,_,_,_,_,rfl,fun V5 l5=>(c_FromPoints (g10.le (l3.trans (l4.trans l5))) (g20.le l5) s0 s0 s2 s0 (by omega)).mono ?_⟩
 rintro r V6 l6 ⟨-,m2⟩
 obtain ⟨f,rfl,gf⟩:=m2 ne
 have gf0:=gf
 obtain ⟨_,_,_,_,_,_,_,_,_,_,_,_,_,_,_,_,_,_,_,_,_,_,_,_,_,_,rfl⟩:=fa_shape gf
 refine ⟨_,_,_,_,_,_,_,_,_,_,_,_,_,_,_,_,_,_,_,_,_,_,_,_,_,_,_,_,_,rfl,fun V7 l7=>(c_End (gf0.le l7) ok sl' ss' (by omega)).mono ?_⟩
 rintro r V8 l8 ⟨w,rfl,e1,-⟩
 have e1:=e1 rfl
 rw [at_known.1,at_known.2] at e1
 have e10:=e1
 obtain ⟨_,_,_,_,_,_,_,_,_,_,_,_,_,_,rfl⟩:=ap_shape e1
 refine ⟨_,_,_,_,_,_,_,_,_,_,_,_,_,_,_,rfl,fun _=>⟨fun _ V9 l9=>(c_Valid_ok (gf0.le (l7.trans (l8.trans l9))) ok sl' ss' (by omega)).mono ?_,(fun h=>nomatch h)⟩,(fun h=>nomatch h)⟩
 rintro r V10 l10 rfl
 refine ⟨_,rfl,fun _ V11 l11=>(c_FromInts 2 0 (by omega) (by omega) (by omega) (by omega)).mono ?_,(fun h=>nomatch h)⟩
 rintro r V12 l12 g3
 have g30:=g3
 obtain ⟨_,_,_,_,_,_,_,_,_,_,_,_,_,_,rfl⟩:=ap_shape g3
 refine ⟨_,_,_,_,_,_,_,_,_,_,_,_,_,_,rfl,fun V13 l13=>(c_point_Same (e10.le (l9.trans (l10.trans (l11.trans (l12.trans l13))))) (g30.le l13) s2 s0 s2 s0 (by omega)).mono ?_⟩
 rintro r V14 l14 rfl
 exact ⟨_,rfl,fun V15 l15=>by simp⟩
theorem iface_nil:IsIface .nilIface:=.inl rfl
end Go.Proofs.Tryz
/- Plain laws: the part of a span on one side of a line and its sample; the only common point of two fragments is symmetric. -/
namespace Go.Proofs.Tryz
open Go.Eng Go.Big
def maxQ (x y:Rat):Rat:=if 0 < cmpQ y x then y else x
def minQ (x y:Rat):Rat:=if cmpQ y x < 0 then y else x
theorem cmpQ_or (x y:Rat):(x < y/\cmpQ x y=-1) \/ (x=y/\cmpQ x y=0) \/ (y < x/\cmpQ x y=1):=by
 by_cases h1:x < y
 ·exact .inl ⟨h1,cmpQ_lt.1 h1⟩
 ·by_cases h2:x=y
  ·exact .inr (.inl ⟨h2,cmpQ_eq.1 h2⟩)
  ·have h3:y < x:=by grind
   exact .inr (.inr ⟨h3,cmpQ_gt.1 h3⟩)
theorem maxQ_ge (x y:Rat):x<=maxQ x y/\y<=maxQ x y:=by
 unfold maxQ
 rcases cmpQ_or y x with ⟨h,e⟩ | ⟨h,e⟩ | ⟨h,e⟩ <;> rw [e] <;> simp <;> grind
theorem minQ_le (x y:Rat):minQ x y<=x/\minQ x y<=y:=by
 unfold minQ
 rcases cmpQ_or y x with ⟨h,e⟩ | ⟨h,e⟩ | ⟨h,e⟩ <;> rw [e] <;> simp <;> grind
theorem Sp.emp_iff {s:Sp}:s.emp=false↔(s.a=true \/ s.b=true \/ s.lo < s.hi):=by
 unfold Sp.emp
 rcases cmpQ_or s.lo s.hi with ⟨h,e⟩ | ⟨h,e⟩ | ⟨h,e⟩ <;> rw [e] <;> cases s.a <;> cases s.b <;> simp <;> grind
def Sp.meet (v w:Sp):Sp:=⟨if v.a then w.lo else if w.a then v.lo else maxQ v.lo w.lo,if v.b then w.hi else if w.b then v.hi else minQ v.hi w.hi,if v.a then w.a else false,if v.b then w.b else false⟩
theorem Sp.meet_can {v w:Sp} (h1:v.can) (h2:w.can):(v.meet w).can:=by
 unfold Sp.meet
 constructor <;> dsimp only
 ·cases hv:v.a with
  | false=>intro h; cases h
  | true=>exact fun h=>h2.1 h
 ·cases hv:v.b with
  | false=>intro h; cases h
  | true=>exact fun h=>h2.2 h
def Sp.samp (s:Sp):Rat:=if s.a then (if s.b then 0 else s.hi - ((1:Int):Rat)) else if s.b then s.lo + ((1:Int):Rat) else (s.lo + s.hi) * ((2:Int):Rat)⁻¹
theorem Sp.samp_in {s:Sp} (h:s.emp=false):(s.a=false->s.lo < s.samp)/\(s.b=false->s.samp < s.hi):=by
 rw [Sp.emp_iff] at h
 unfold Sp.samp
 cases ha:s.a <;> cases hb:s.b <;> simp [ha,hb] at h ⊢ <;> grind
def dotL (m l:L3):Rat:=((m.1:Rat) * (l.2.1:Rat)) + ((m.2.1:Rat) * (-(l.1:Rat)))
def basL (m l:L3):Rat:=valL m (atX l 0) (atY l 0)
theorem val_at (m l:L3) (t:Rat):valL m (atX l t) (atY l t)=basL m l + dotL m l * t:=by
 unfold basL valL dotL atX atY; grind
def cutP (m l:L3):Rat:=-(basL m l * (dotL m l)⁻¹)
def cutS (l:L3) (s:Sp) (m:L3):Sp:=
 if (dotL m l).num.sign == 0 then s else if (dotL m l).num.sign == 1 then s.meet ⟨cutP m l,0,false,true⟩ else s.meet ⟨0,cutP m l,true,false⟩
def cutB (l:L3) (s:Sp) (m:L3):Bool:=
 if (dotL m l).num.sign == 0 then decide ((basL m l).num.sign > 0) else !(cutS l s m).emp
theorem sign_or (q:Rat):(q=0/\q.num.sign=0) \/ (0 < q/\q.num.sign=1) \/ (q < 0/\q.num.sign=-1):=by
 have h1:=@num_neg' q
 have h2:=@num_pos' q
 have h3:=@Rat.num_eq_zero q
 rcases Int.lt_trichotomy q.num 0 with h | h | h
 ·exact .inr (.inr ⟨h1.1 h,Int.sign_eq_neg_one_of_neg h⟩)
 ·exact .inl ⟨h3.1 h,by rw [h]; rfl⟩
 ·exact .inr (.inl ⟨h2.1 h,Int.sign_eq_one_of_pos h⟩)
theorem cutB_emp {l:L3} {s:Sp} {m:L3} (he:s.emp=false) (hb:cutB l s m=true):(cutS l s m).emp=false:=by
 unfold cutB at hb
 split at hb
 ·rename_i h
  unfold cutS
  rw [if_pos h]; exact he
 ·simpa using hb
theorem cutS_can {l:L3} {s:Sp} {m:L3} (hc:s.can):(cutS l s m).can:=by
 unfold cutS
 split
 ·exact hc
 ·split
  ·exact Sp.meet_can hc ⟨(fun h=>nomatch h),fun _=>rfl⟩
  ·exact Sp.meet_can hc ⟨fun _=>rfl,(fun h=>nomatch h)⟩
theorem cut_side {l:L3} {s:Sp} {m:L3} (he:s.emp=false) (hb:cutB l s m=true):0 < valL m (atX l (cutS l s m).samp) (atY l (cutS l s m).samp):=by
 have hin:=Sp.samp_in (cutB_emp he hb)
 rw [val_at]
 generalize ht:(cutS l s m).samp=t at hin ⊢
 rcases sign_or (dotL m l) with ⟨h,e⟩ | ⟨h,e⟩ | ⟨h,e⟩
 ·unfold cutB at hb
  rw [e] at hb
  have hb:(basL m l).num.sign > 0:=by simpa using hb
  rw [h]
  rcases sign_or (basL m l) with ⟨h,e⟩ | ⟨h,e⟩ | ⟨h,e⟩
  ·omega
  ·grind
  ·omega
 ·have ne:dotL m l≠0:=by grind
  have hi:=Rat.mul_inv_cancel _ ne
  have lo:cutP m l < t:=by
   have:=hin.1
   unfold cutS at this
   rw [e] at this
   unfold Sp.meet at this
   cases hs:s.a with
   | true=>simp [hs] at this; exact this
   | false=>
    simp [hs] at this
    have:=(maxQ_ge s.lo (cutP m l)).2
    grind
  have hp:=Rat.mul_pos h (show 0 < t - cutP m l by grind)
  have e:dotL m l * (t - cutP m l)=basL m l + dotL m l * t:=by unfold cutP; grind
  rwa [e] at hp
 ·have ne:dotL m l≠0:=by grind
  have hi:=Rat.mul_inv_cancel _ ne
  have lo:t < cutP m l:=by
   have:=hin.2
   unfold cutS at this
   rw [e] at this
   unfold Sp.meet at this
   cases hs:s.b with
   | true=>simp [hs] at this; exact this
   | false=>
    simp [hs] at this
    have:=(minQ_le s.hi (cutP m l)).2
    grind
  have hp:=Rat.mul_pos (show 0 < -dotL m l by grind) (show 0 < cutP m l - t by grind)
  have e:-dotL m l * (cutP m l - t)=basL m l + dotL m l * t:=by unfold cutP; grind
  rwa [e] at hp
theorem val_rev (m:L3) (x y:Rat):valL (revL m) x y=-valL m x y:=by
 unfold valL revL; simp only [Rat.intCast_neg]; grind
/-! the only common point -/
def crossL (l m:L3):Rat:=((l.1:Rat) * (m.2.1:Rat)) - ((l.2.1:Rat) * (m.1:Rat))
def meX (l m:L3):Rat:=(((l.2.1:Rat) * (m.2.2:Rat)) - ((l.2.2:Rat) * (m.2.1:Rat))) * (crossL l m)⁻¹
def meY (l m:L3):Rat:=(((l.2.2:Rat) * (m.1:Rat)) - ((l.1:Rat) * (m.2.2:Rat))) * (crossL l m)⁻¹
def onB (m l:L3):Bool:=decide (m=l) || decide (m=revL l)
def onS (m:L3) (t:Sp) (l:L3):Sp:=if m=l then t else t.neg
def end1 (s v:Sp):Bool:=!s.b && !v.a && decide (s.hi=v.lo)
def end2 (s v:Sp):Bool:=!s.a && !v.b && decide (s.lo=v.hi)
def offB (l:L3) (s:Sp) (m:L3) (t:Sp):Bool:=decide (crossL l m≠0) && s.has (parL l (meX l m) (meY l m)) && t.has (parL m (meX l m) (meY l m))
def mtB (l:L3) (s:Sp) (m:L3) (t:Sp):Bool:=if onB m l then end1 s (onS m t l) || end2 s (onS m t l) else offB l s m t
def mtX (l:L3) (s:Sp) (m:L3) (t:Sp):Rat:=if onB m l then (if end1 s (onS m t l) then atX l s.hi else atX l s.lo) else meX l m
def mtY (l:L3) (s:Sp) (m:L3) (t:Sp):Rat:=if onB m l then (if end1 s (onS m t l) then atY l s.hi else atY l s.lo) else meY l m
theorem revL_rev (l:L3):revL (revL l)=l:=by unfold revL; simp
theorem onB_symm (l m:L3):onB m l=onB l m:=by
 unfold onB
 have h1:(m=l)↔(l=m):=eq_comm
 have h2:(m=revL l)↔(l=revL m):=⟨fun h=>by rw [h,revL_rev],fun h=>by rw [h,revL_rev]⟩
 rw [decide_eq_decide.2 h1,decide_eq_decide.2 h2]
theorem cross_symm (l m:L3):crossL m l=-crossL l m:=by unfold crossL; grind
theorem inv_opp (x:Rat):(-x)⁻¹=-x⁻¹:=by
 by_cases h:x=0
 ·subst h; simp
 ·grind
theorem meX_symm (l m:L3):meX m l=meX l m:=by unfold meX; rw [cross_symm,inv_opp]; grind
theorem meY_symm (l m:L3):meY m l=meY l m:=by unfold meY; rw [cross_symm,inv_opp]; grind
theorem atX_rev (l:L3) (t:Rat):atX (revL l) (-t)=atX l t:=by unfold atX normL revL; simp only [Rat.intCast_neg]; grind
theorem atY_rev (l:L3) (t:Rat):atY (revL l) (-t)=atY l t:=by unfold atY normL revL; simp only [Rat.intCast_neg]; grind
theorem mt_symm {l:L3} {s:Sp} {m:L3} {t:Sp} (hs:s.emp=false) (ht:t.emp=false) :
  mtB m t l s=mtB l s m t/\(mtB l s m t=true->mtX m t l s=mtX l s m t/\mtY m t l s=mtY l s m t):=by
 unfold mtB mtX mtY
 rw [onB_symm l m]
 cases ho:onB l m with
 | false=>
  simp only [Bool.false_eq_true,if_false]
  refine ⟨?_,fun _=>⟨meX_symm l m,meY_symm l m⟩⟩
  unfold offB
  rw [meX_symm,meY_symm,cross_symm]
  have:(-crossL l m≠0)↔(crossL l m≠0):=by constructor <;> intro h e <;> apply h <;> grind
  rw [decide_eq_decide.2 this,Bool.and_assoc,Bool.and_assoc,Bool.and_comm (Sp.has t _)]
 | true=>
  simp only [if_true]
  by_cases h:m=l
  ·subst h
   unfold onS
   rw [if_pos rfl,if_pos rfl]
   rw [Sp.emp_iff] at hs ht
   unfold end1 end2
   by_cases e1:s.b=false/\t.a=false/\s.hi=t.lo
   ·obtain ⟨e2,e3,e4⟩:=e1
    by_cases e5:t.b=false/\s.a=false/\t.hi=s.lo
    ·exfalso; grind
    ·simp [e2,e3,e4]
     by_cases q1:t.b=false <;> by_cases q2:s.a=false <;> simp [q1,q2] <;> grind
   ·by_cases e5:t.b=false/\s.a=false/\t.hi=s.lo
    ·obtain ⟨e2,e3,e4⟩:=e5
     simp [e2,e3,e4]
     by_cases q1:s.b=false <;> by_cases q2:t.a=false <;> simp [q1,q2] <;> grind
    ·cases q1:s.a <;> cases q2:s.b <;> cases q3:t.a <;> cases q4:t.b <;> simp [q1,q2,q3,q4] at e1 e5 ⊢ <;> grind
  ·have hm:l=revL m:=by
    unfold onB at ho
    simp only [Bool.or_eq_true,decide_eq_true_eq] at ho
    rcases ho with ho | ho
    ·exact absurd ho.symm h
    ·exact ho
   have h':¬ l=m:=fun e=>h e.symm
   unfold onS
   rw [if_neg h,if_neg h']
   subst hm
   unfold end1 end2 Sp.neg
   have k1:=fun x=>atX_rev m x
   have k2:=fun x=>atY_rev m x
   cases q1:s.a <;> cases q2:s.b <;> cases q3:t.a <;> cases q4:t.b <;> simp [q1,q2,q3,q4] <;> grind
end Go.Proofs.Tryz
