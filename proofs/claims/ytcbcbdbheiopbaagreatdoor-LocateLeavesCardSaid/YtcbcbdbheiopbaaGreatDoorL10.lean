/- A part of the proof (joined by program from: NatH, NatI, NumA, NumB, NumC, NumD, NumP, NumE, NumF, NumG). -/
import Derived.Test.YtcbcbdbheiopbaaGreatDoorL9
import Derived.Test.YtcbcbdbheiopbaaGreatDoorL7
import Derived.Test.YtcbcbdbheiopbaaGreatDoorL8
set_option linter.unusedVariables false
open Go.IntKind (i64 u64 u32)
/- Contract of package nat: long, the walk. -/
namespace Go.Proofs.Tryz
open Go.Eng Go.Big
/-- What holds at the head of the division's loop. -/
structure OI (X Y n n8:Nat) (j:Int) (us qs:List Nat):Prop where
 j0:-1<=j
 j1:j < (n + 1 - n8:Nat)
 ul:us.length=n + 1
 ud:Dig us
 ql:qs.length=n + 1 - n8
 qd:Dig qs
 eq:X=val us + Y * (4294967296 ^ (j + 1).toNat * val (qs.drop (j + 1).toNat))
 lt:val (us.drop (j + 1).toNat) < Y
/-- The divisor: its two first digits. -/
structure DK (Y n8 k v1 v2:Nat):Prop where
 hn8:n8=k + 2
 len:(digs Y).length=n8
 g1:(digs Y)[k + 1]?=some v1
 g2:(digs Y)[k]?=some v2
 l1:2147483648<=v1
 u1:v1 < 4294967296
 u2:v2 < 4294967296
 eq:Y=(v1 * 4294967296 + v2) * 4294967296 ^ k + val ((digs Y).take k)
 lt:val ((digs Y).take k) < 4294967296 ^ k
 top:Y < 4294967296 ^ n8
theorem DK.of {Y n8:Nat} (hl:(digs Y).length=n8) (h2:2<=n8) (ht:2147483648 * 4294967296 ^ (n8 - 1)<=Y):∃k v1 v2,DK Y n8 k v1 v2:=by
 obtain ⟨k,hk⟩:∃k,n8=k + 2:=⟨n8 - 2,by omega⟩
 have hYs:=top2 (us:=digs Y) (k:=k) (by omega)
 rw [val_digs] at hYs
 have hv':=val_lt ((dig_digs Y).take k)
 rw [List.length_take,Nat.min_eq_left (by omega)] at hv'
 have hdv1:=(dig_digs Y).get (i:=k + 1) (by omega)
 have hdv2:=(dig_digs Y).get (i:=k) (by omega)
 have hv1:2147483648<=(digs Y)[k + 1]:=by
  rcases Nat.lt_or_ge (digs Y)[k + 1] 2147483648 with hc | hc
  ·exfalso
   have a1:((digs Y)[k + 1] * 4294967296 + (digs Y)[k]) + 1<=2147483648 * 4294967296:=by omega
   have a2:=Nat.mul_le_mul_right (4294967296 ^ k) a1
   rw [Nat.add_mul,Nat.one_mul] at a2
   have a3:2147483648 * 4294967296 ^ (k + 1)=2147483648 * 4294967296 * 4294967296 ^ k:=by rw [Nat.pow_succ]; grind
   rw [show n8 - 1=k + 1 from by omega,a3] at ht
   omega
  ·exact hc
 exact ⟨k,_,_,hk,hl,List.getElem?_eq_getElem _,List.getElem?_eq_getElem _,hv1,hdv1,hdv2,hYs,hv',by rw [← hl,← digs_len_le]; exact Nat.le_refl _⟩
theorem OI.start {x X Y n n8 s:Nat} (hX:X=x * 2 ^ s) (hx:(digs x).length=n) (hs:s < 32) (hn8:2<=n8) (hn:n8<=n) (hY:2147483648 * 4294967296 ^ (n8 - 1)<=Y) (hXl:(digs X).length<=n + 1) :
  OI X Y n n8 (((n + 1 - n8:Nat):Int) - 1) ((digs X++[0,0]).take (n + 1)) (List.replicate (n + 1 - n8) 0):=by
 have hn4:n<=(digs X).length:=by rw [← hx,hX]; exact digs_len_mono (Nat.le_mul_of_pos_right _ (Nat.two_pow_pos s))
 have hul:((digs X++[0,0]).take (n + 1)).length=n + 1:=by simp; omega
 have huv:val ((digs X++[0,0]).take (n + 1))=X:=by
  have a1:val (digs X++[0,0])=X:=by rw [val_append,val_digs]; simp
  have a2:=val_take_drop (digs X++[0,0]) (n + 1) (by simp; omega)
  have a3:val ((digs X++[0,0]).drop (n + 1))=0:=by
   refine drop_zero_of_lt ?_ (by simp; omega)
   rw [a1]
   exact digs_len_le.1 (by omega)
  rw [a3,Nat.mul_zero,Nat.add_zero,a1] at a2
  exact a2.symm
 have a0:(((n + 1 - n8:Nat):Int) - 1 + 1).toNat=n + 1 - n8:=by omega
 refine ⟨by omega,by omega,hul,(Dig.append.2 ⟨dig_digs X,by simp [Dig]⟩).take _,by simp,Dig.rep _,?_,?_⟩
 ·rw [a0,List.drop_of_length_le (by simp),val_nil,Nat.mul_zero,Nat.mul_zero,Nat.add_zero,huv]
 ·rw [a0]
  have a1:=val_take_drop ((digs X++[0,0]).take (n + 1)) (n + 1 - n8) (by omega)
  rw [huv] at a1
  have hXlt:X < 4294967296 ^ n * 2 ^ s:=by rw [hX]; exact Nat.mul_lt_mul_of_pos_right (by rw [← hx]; exact digs_len_le.1 (Nat.le_refl _)) (Nat.two_pow_pos s)
  have h2s:2 ^ s<=2 ^ 31:=Nat.pow_le_pow_right (by omega) (by omega)
  have a2:4294967296 ^ n * 2 ^ s<=4294967296 ^ (n + 1 - n8) * Y:=by
   have b1:4294967296 ^ n=4294967296 ^ (n + 1 - n8) * 4294967296 ^ (n8 - 1):=by rw [← Nat.pow_add]; congr 1; omega
   rw [b1,Nat.mul_assoc]
   refine Nat.mul_le_mul_left _ ?_
   have b2:2 ^ s * 4294967296 ^ (n8 - 1)<=2147483648 * 4294967296 ^ (n8 - 1):=Nat.mul_le_mul_right _ (by omega)
   rw [Nat.mul_comm]
   omega
  have a3:4294967296 ^ (n + 1 - n8) * val (((digs X++[0,0]).take (n + 1)).drop (n + 1 - n8)) < 4294967296 ^ (n + 1 - n8) * Y:=by omega
  exact Nat.lt_of_mul_lt_mul_left a3
theorem OI.body {X Y n n8 k v1 v2 j:Nat} {us qs:List Nat} (h:OI X Y n n8 (j:Int) us qs) (hd:DK Y n8 k v1 v2) (hjn:j + n8<=n) :
  val (us.drop (j + n8 + 1))=0/\∃u0 u1 u2 t',us[j + n8]?=some u0/\us[j + n8 - 1]?=some u1/\us[j + n8 - 2]?=some u2/\GK v1 v2 (val ((digs Y).take k)) u0 u1 u2 t' (4294967296 ^ k) (val (us.drop j)) Y:=by
 obtain ⟨-,-,hus,hdu,hqs,hdq,hXe,hrem⟩:=h
 have hj2:((j:Int) + 1).toNat=j + 1:=by omega
 rw [hj2] at hXe hrem
 have hk:=hd.hn8
 have hYlt:=hd.top
 have hT1:val (us.drop j)=us[j] + 4294967296 * val (us.drop (j + 1)):=by rw [List.drop_eq_getElem_cons (by omega),val_cons]
 have huj:=hdu.get (i:=j) (by omega)
 have hz:val (us.drop (j + n8 + 1))=0:=by
  have:=drop_zero_of_lt (us:=us.drop (j + 1)) (k:=n8) (by omega) (by simp; omega)
  rw [List.drop_drop] at this
  rw [show j + n8 + 1=j + 1 + n8 from by omega]; exact this
 have ht':=val_lt ((hdu.drop j).take k)
 rw [List.length_take,List.length_drop,Nat.min_eq_left (by omega)] at ht'
 refine ⟨hz,us[j + n8],us[j + n8 - 1],us[j + n8 - 2],val ((us.drop j).take k),List.getElem?_eq_getElem _,List.getElem?_eq_getElem _,List.getElem?_eq_getElem _,
  hd.eq,?_,hd.lt,ht',hd.l1,hd.u1,hd.u2,hdu.get _,hdu.get _,hdu.get _,by omega⟩
 have:=top3 (us:=us.drop j) (k:=k) (by simp; omega) (by rw [List.drop_drop,show j + (k + 3)=j + n8 + 1 from by omega]; exact hz)
 simp only [List.getElem_drop] at this
 rw [this]
 congr <;> omega
theorem OI.next {X Y n n8 j H:Nat} {us qs hs:List Nat} (h:OI X Y n n8 (j:Int) us qs) (hjn:j + n8<=n) (h1:hs.length=us.length) (hdh:Dig hs) (h2:hs.take j=us.take j) (h3:val (hs.drop j) + H * Y=val (us.drop j)) (h4:val (hs.drop j) < Y) (hH:H < 4294967296) :
  OI X Y n n8 ((j:Int) - 1) hs (qs.set j H):=by
 obtain ⟨-,hj1,hus,hdu,hqs,hdq,hXe,hrem⟩:=h
 have hj2:((j:Int) + 1).toNat=j + 1:=by omega
 have hj5:((j:Int) - 1 + 1).toNat=j:=by omega
 rw [hj2] at hXe
 refine ⟨by omega,by omega,by omega,hdh,by simpa using hqs,hdq.set _ _ hH,?_,by rw [hj5]; exact h4⟩
 have a1:=val_take_drop hs j (by omega)
 have a2:=val_take_drop us j (by omega)
 rw [h2] at a1
 rw [← h3] at a2
 rw [hj5,List.drop_eq_getElem_cons (l:=qs.set j H) (by simp; omega),List.getElem_set_self,List.drop_set_of_lt (by omega),val_cons,hXe,a1,a2,Nat.pow_succ]
 grind
theorem OI.done {x y X Y n n8 s:Nat} {us qs:List Nat} (h:OI X Y n n8 (-1) us qs) (hX:X=x * 2 ^ s) (hY:Y=y * 2 ^ s) (hn:n8<=n + 1) (hYl:Y < 4294967296 ^ n8):val qs=x / y/\val (us.take n8) / 2 ^ s=x % y:=by
 obtain ⟨-,-,hus,hdu,hqs,hdq,hXe,hrem⟩:=h
 have hXe:X=val us + Y * val qs:=by simpa using hXe
 have hrem:val us < Y:=by simpa using hrem
 have hYp:0 < Y:=by omega
 have hzz:=drop_zero_of_lt (us:=us) (k:=n8) (by omega) (by omega)
 have hut:val (us.take n8)=val us:=by
  have:=val_take_drop us n8 (by omega)
  rw [hzz,Nat.mul_zero,Nat.add_zero] at this
  exact this.symm
 constructor
 ·rw [← Nat.mul_div_mul_right x y (Nat.two_pow_pos s),← hX,← hY,hXe,Nat.add_mul_div_left _ _ hYp,Nat.div_eq_of_lt hrem,Nat.zero_add]
 ·have:x * 2 ^ s % (y * 2 ^ s)=val us:=by
   rw [← hX,← hY,hXe,Nat.add_mul_mod_self_left,Nat.mod_eq_of_lt hrem]
  rw [Nat.mul_mod_mul_right] at this
  rw [hut,← this,Nat.mul_div_cancel _ (Nat.two_pow_pos s)]
set_option maxHeartbeats 8000000 in
theorem c_nat_long {V:View} {p q:OA} {n c m e:Nat} {x y:Nat} (ha:RN V p n c x) (hb:RN V q m e y) (hn:n<=1099511627776) (hm2:2<=m) (hle:y<=x) :
  Acts prog 341 #[.slice p n c,.slice q m e] V fun r V'=>∃p1 n1 c1 p2 n2 c2,r=.tuple #[.slice p1 n1 c1,.slice p2 n2 c2]/\RN V' p1 n1 c1 (x / y)/\RN V' p2 n2 c2 (x % y):=by
 have hla:=ha.len
 have hlb:=hb.len
 have hmn:m<=n:=by rw [hla,hlb]; exact digs_len_mono hle
 refine vc_nat_long p n c q m e V _ ?_
 simp (disch:=omega) only [i64w]
 refine hb.rd (m - 1) (by omega) (by omega) fun V1 l1=>(c_LeadingZeros32 _ ((dig_digs y).get (by omega))).mono ?_
 rintro r V2 l2 rfl
 refine ⟨_,rfl,?_⟩
 obtain ⟨t,ht⟩:∃t,t=(digs y)[m - 1]'(by omega):=⟨_,rfl⟩
 rw [← ht]
 have hbl:blen t<=32:=blen_le.2 (by rw [ht]; exact (dig_digs y).get _)
 obtain ⟨s,hs⟩:∃s,s=32 - blen t:=⟨_,rfl⟩
 have es:(32 - (blen t:Int))=(s:Int):=by omega
 obtain ⟨hs32,hvl,hvt⟩:=shift_facts hlb.symm (by omega) ht hs
 rw [es,u64w (by omega)]
 clear es hbl
 intro V3 l3
 refine (c_nat_Shl (ha.le (l1.trans (l2.trans l3))) (by omega) s (by omega)).mono ?_
 rintro r V4 l4 ⟨p4,n4,c4,rfl,h4,hc4⟩
 rw [val_digs] at h4 hc4
 have hx0:x≠0:=by
  intro e0; subst e0
  rw [digs_zero] at hla
  simp at hla; omega
 have hc4:c4=n + 1:=by
  rcases hc4 with e0 | e0
  ·exact absurd e0 hx0
  ·rw [e0,← hla,Nat.div_eq_of_lt hs32]
 have hl4:=h4.len
 have hXlt:x * 2 ^ s < 4294967296 ^ n * 2 ^ s:=Nat.mul_lt_mul_of_pos_right (by rw [hla]; exact digs_len_le.1 (Nat.le_refl _)) (Nat.two_pow_pos s)
 have h2s:2 ^ s<=2 ^ 31:=Nat.pow_le_pow_right (by omega) (by omega)
 have hn4:n<=n4/\n4<=n + 1:=by
  constructor
  ·rw [hl4,hla]; exact digs_len_mono (Nat.le_mul_of_pos_right _ (Nat.two_pow_pos s))
  ·rw [hl4,digs_len_le,Nat.pow_succ]
   have:4294967296 ^ n * 2 ^ s<=4294967296 ^ n * 4294967296:=Nat.mul_le_mul_left _ (by omega)
   omega
 refine ⟨_,_,_,rfl,u32s (digs (x * 2 ^ s)),h4.sl,by simp; omega,h4.cap,h4.nilc,by omega,by omega,rfl,by simp [Value.oneCell'],?_⟩
 intro sp c7 hc71 hc72
 refine ⟨⟨by omega,by omega⟩,fun V5 l5=>(c_nat_Shl (hb.le (l1.trans (l2.trans (l3.trans (l4.trans l5))))) (by omega) s (by omega)).mono ?_⟩
 rintro r V6 l6 ⟨p8,n8,c8,rfl,h8,-⟩
 rw [val_digs] at h8
 have hl8:=h8.len
 rw [hvl] at hl8
 subst hl8
 refine ⟨_,_,_,rfl,?_⟩
 obtain ⟨k,v1,v2,hDK⟩:=DK.of hvl hm2 hvt
 have hk:=hDK.hn8
 have hv1:=hDK.l1
 have hv1u:=hDK.u1
 have hv2u:=hDK.u2
 have hOI:=OI.start (Y:=y * 2 ^ s) rfl hla.symm hs32 hm2 hmn hvt (by omega)
 have w6:i64.wrap ((n8:Int) - 1)=(n8:Int) - 1:=i64w (by omega)
 have w7:i64.wrap ((n8:Int) - 2)=(n8:Int) - 2:=i64w (by omega)
 simp only [w6,w7]
 refine h8.rdq (k + 1) (by omega) hDK.g1 (h8.rdq k (by omega) hDK.g2 ?_)
 have hn1:((n:Int) + 1).toNat=n + 1:=by omega
 have hn2:(((n + 1:Nat):Int) - (n8:Int)).toNat=n + 1 - n8:=by omega
 have w1:i64.wrap ((n:Int) + 1)=(n:Int) + 1:=i64w (by omega)
 have w2:u64.wrap (v1:Int)=v1:=u64w (by omega)
 have w3:u64.wrap (v2:Int)=v2:=u64w (by omega)
 have w4:i64.wrap (((n + 1:Nat):Int) - (n8:Int))=((n + 1:Nat):Int) - (n8:Int):=i64w (by omega)
 have w5:i64.wrap (((n + 1 - n8:Nat):Int) - 1)=((n + 1 - n8:Nat):Int) - 1:=i64w (by omega)
 simp only [hn1,w2,w3,w4,hn2,w5,u32s_rep]
 obtain ⟨tl,htl⟩:∃tl,tl=u32s ((digs (x * 2 ^ s)++[0,0]).drop (n + 1))++sp:=⟨_,rfl⟩
 have hrow:u32s (digs (x * 2 ^ s))++([.int .u32 0,.int .u32 0]:List Value)++sp=u32s ((digs (x * 2 ^ s)++[0,0]).take (n + 1))++tl:=by
  rw [htl,← List.append_assoc,← u32s_append,List.take_append_drop,u32s_append]; rfl
 rw [hrow]
 clear htl hrow hvt hXlt h2s hc4 hs ht
 generalize hX:x * 2 ^ s=X at *
 generalize hY:y * 2 ^ s=Y at *
 refine ⟨by omega,by omega,by omega,fun z V'=>∃us qs:List Nat,z.2.1=u32s us++tl/\z.2.2=u32s qs/\OI X Y n n8 z.1 us qs,fun z=>(z.1 + 1).toNat,
  ⟨(((n + 1 - n8:Nat):Int) - 1,u32s ((digs X++[0,0]).take (n + 1))++tl,u32s (List.replicate (n + 1 - n8) 0)),?_,_,_,rfl,rfl,hOI⟩,?_⟩
 ·(try dsimp only); and_intros <;> first | exact True.intro | rfl
 rintro ⟨j,row,qrow⟩ V7 l7 ⟨us,qs,rfl,rfl,hO⟩
 dsimp only at hO ⊢
 have hj0:=hO.j0
 have hj1:=hO.j1
 have hus:=hO.ul
 have hqs:=hO.ql
 refine ⟨by trivial,fun h3=>?_,fun h3=>?_⟩
 ·have h3:0<=j:=by simpa using h3
  obtain ⟨j,rfl⟩:=Int.eq_ofNat_of_zero_le h3
  have hjn:j + n8<=n:=by omega
  obtain ⟨hz,u0,u1,u2,t',hu0,hu1,hu2,hK⟩:=hO.body hDK hjn
  obtain ⟨eb,eq1,eq2⟩:=hK.words
  have w8:i64.wrap ((j:Int) + n8)=((j + n8:Nat):Int):=by rw [i64w (by omega)]; omega
  have w9:i64.wrap (((j + n8:Nat):Int) - 1)=((j + n8 - 1:Nat):Int):=by rw [i64w (by omega)]; omega
  have w10:i64.wrap (((j + n8:Nat):Int) - 2)=((j + n8 - 2:Nat):Int):=by rw [i64w (by omega)]; omega
  have hjw:i64.wrap ((j:Int) - 1)=(j:Int) - 1:=i64w (by omega)
  simp only [w8,w9,w10,hjw,Int.toNat_natCast]
  refine ⟨⟨by omega,by omega⟩,_,row_getq hu0,by omega,⟨by omega,by omega⟩,_,row_getq hu1,by omega,by omega,?_⟩
  rw [eb,eq1,eq2]
  clear eb eq1 eq2
  refine ⟨fun g V'=>∃G:Nat,g=(G:Int)/\GF (val (us.drop j)) Y G,
   ⟨fun z V'=>∃G ρ:Nat,z=((G:Int),(ρ:Int))/\GI v1 (u0 * 4294967296 + u1) (val (us.drop j)) Y G ρ,fun z=>z.1.toNat,
    ⟨((((u0 * 4294967296 + u1) / v1:Nat):Int),(((u0 * 4294967296 + u1) % v1:Nat):Int)),by (try dsimp only); and_intros <;> first | exact True.intro | rfl,_,_,rfl,hK.start⟩,?_⟩,?_⟩
  ·rintro _ V8 l8 ⟨G,ρ,rfl,hGI⟩
   obtain ⟨hmulG,hor,w11,w12⟩:=hK.words2 hGI
   dsimp only
   have t1:∀a:Nat,((((a / 2 ^ 32:Nat):Int) != 0)=true↔4294967296<=a)/\((((a / 2 ^ 32:Nat):Int) != 0)=false↔a < 4294967296):=by
    intro a
    constructor
    ·rw [bne_iff_ne]; omega
    ·rw [bne_eq_false_iff_eq]; omega
   simp only [w11,fdiv_nat,(t1 _).1,(t1 _).2]
   refine ⟨by trivial,by omega,fun hc=>⟨by omega,fun hd=>?_,fun hd=>?_⟩,fun hc=>⟨by omega,⟨by omega,by omega⟩,_,row_getq hu2,fun ht=>⟨by omega,fun hd=>?_,fun hd=>?_⟩,fun ht=>?_⟩⟩
   ·obtain ⟨g1,g2⟩:=hK.downA hGI (hK.big hc) hd
    exact ⟨((G - 1:Nat):Int),by rw [w12 g1]; (try dsimp only); and_intros <;> first | exact True.intro | rfl,G - 1,rfl,g2⟩
   ·obtain ⟨g1,g2⟩:=hK.downB hGI (hK.big hc) hd
    exact ⟨(((G - 1:Nat):Int),((ρ + v1:Nat):Int)),by (try dsimp only); omega,by rw [w12 g1]; (try dsimp only); and_intros <;> first | exact True.intro | rfl,G - 1,ρ + v1,rfl,g2⟩
   ·have h1:=hK.dec hGI (by rw [hmulG,hor,decide_eq_true_eq] at ht; omega)
    obtain ⟨g1,g2⟩:=hK.downA hGI h1 hd
    exact ⟨((G - 1:Nat):Int),by rw [w12 g1]; (try dsimp only); and_intros <;> first | exact True.intro | rfl,G - 1,rfl,g2⟩
   ·have h1:=hK.dec hGI (by rw [hmulG,hor,decide_eq_true_eq] at ht; omega)
    obtain ⟨g1,g2⟩:=hK.downB hGI h1 hd
    exact ⟨(((G - 1:Nat):Int),((ρ + v1:Nat):Int)),by (try dsimp only); omega,by rw [w12 g1]; (try dsimp only); and_intros <;> first | exact True.intro | rfl,G - 1,ρ + v1,rfl,g2⟩
   ·have h1:G * v2<=ρ * 4294967296 + u2:=by rw [hmulG,hor,decide_eq_false_iff_not] at ht; omega
    exact ⟨(G:Int),by (try dsimp only); and_intros <;> first | exact True.intro | rfl,G,rfl,hK.last hGI hc h1⟩
  ·rintro _ V9 l9 ⟨G,rfl,hGF⟩
   have hGl:=hGF.g
   clear hK hu0 hu1 hu2
   have hvl:=hDK.len
   have hvs:=val_digs Y
   refine ⟨by trivial,fun z V'=>∃(b c i:Nat) (fs:List Nat),z=((b:Int),(c:Int),(i:Int),u32s fs++tl)/\SubI us (digs Y) j G i b c fs,fun z=>n8 - z.2.2.1.toNat,
     ⟨(0,0,0,u32s us++tl),by (try dsimp only); and_intros <;> first | exact True.intro | rfl,0,0,0,us,rfl,by omega,by omega,by omega,rfl,hO.ud,rfl,rfl,by simp⟩,?_⟩
   rintro _ V10 l10 ⟨b,c,i,fs,rfl,hS⟩
   dsimp only
   simp only [Int.toNat_natCast]
   have hi:=hS.hi
   have hfl:=hS.len
   refine ⟨by trivial,fun hc=>?_,fun hc=>?_⟩
   ·have hc:i < n8:=by simpa using hc
    obtain ⟨u,d,ob,od,cn,cb,q1,q2,q3,q4,q5,q6,q7,hS'⟩:=hS.step hGl (dig_digs Y) hO.ud (by omega) (by omega)
    refine (h8.le (l7.trans (l9.trans l10))).rdq i rfl q1 ?_
    have w13:i64.wrap ((j:Int) + i)=((j + i:Nat):Int):=by rw [i64w (by omega)]; omega
    have w14:i64.wrap ((i:Int) + 1)=((i + 1:Nat):Int):=by rw [i64w (by omega)]; omega
    rw [q3,w13,w14,Int.toNat_natCast]
    refine ⟨⟨by omega,by omega⟩,_,row_getq q2,⟨by omega,by omega⟩,by simp; omega,by omega,by omega,?_⟩
    rw [q4,q5,q6]
    refine ⟨((ob:Int),(cb:Int),((i + 1:Nat):Int),u32s (fs.set (j + i) od)++tl),by (try dsimp only); omega,?_,_,_,_,_,rfl,hS'⟩
    (try dsimp only); and_intros <;> first | exact True.intro | rfl | exact row_set (by omega)
   ·have hc:i=(digs Y).length:=by simp at hc; omega
    subst hc
    obtain ⟨u,ob,od,q1,q2,q3,q4,q5,q6,q7,q8,q9,q10⟩:=hS.fin hO.ud (by omega) (by rw [hvl]; exact hz)
    rw [hvl] at q1 q6 q7 q8 q9 q10
    rw [hvs] at q10
    refine ⟨⟨by omega,by omega⟩,_,row_getq q1,⟨by omega,by omega⟩,by simp; omega,⟨by omega,by omega⟩,by simp; omega,by omega,?_⟩
    rw [q2,q3,row_set (by omega),u32w (x:=(G:Int)) (by omega)]
    generalize fs.set (j + n8) od=ks at *
    have hqset:∀H:Nat,(u32s qs).set (0 + j * 1) (.int .u32 (H:Int))=u32s (qs.set j H):=by intro H; rw [Nat.zero_add,Nat.mul_one,u32s_set]
    rw [hqset]
    refine ⟨fun h0=>?_,fun h0=>?_⟩
    ·have h0:ob=0:=by simpa using h0
     rw [h0,Nat.mul_zero,Nat.add_zero] at q10
     have hlt:=hGF.lt
     rw [Nat.add_mul,Nat.one_mul] at hlt
     refine ⟨((j:Int) - 1,u32s ks++tl,u32s (qs.set j G)),by (try dsimp only); omega,by (try dsimp only); and_intros <;> first | exact True.intro | rfl,ks,qs.set j G,rfl,rfl,?_⟩
     exact hO.next hjn q7 q6 q8 q10 (by omega) hGl
    ·have h0:ob=1:=by
      have:ob≠0:=by simpa using h0
      omega
     rw [h0,Nat.mul_one] at q10
     have hklt:∀ls:List Nat,ls.length=n + 1->Dig ls->val (ls.drop (j + n8 + 1))=0->val (ls.drop j) < 4294967296 ^ (n8 + 1):=by
      intro ls h1 h2 h3
      have a1:=val_take_drop (ls.drop j) (n8 + 1) (by simp; omega)
      rw [List.drop_drop,show j + (n8 + 1)=j + n8 + 1 from by omega,h3,Nat.mul_zero,Nat.add_zero] at a1
      have a2:=val_lt ((h2.drop j).take (n8 + 1))
      rw [List.length_take,List.length_drop,Nat.min_eq_left (by omega)] at a2
      omega
     have hk9:=hklt ks (by omega) q6 q9
     have hG1:1<=G:=by
      rcases Nat.eq_zero_or_pos G with e0 | e0
      ·subst e0; omega
      ·exact e0
     have hGs:G * Y=(G - 1) * Y + Y:=by conv=>lhs; rw [← Nat.sub_add_cancel hG1,Nat.add_mul,Nat.one_mul]
     have hGt:=hGF.gt
     have hw20:u32.wrap ((G:Int) - 1)=((G - 1:Nat):Int):=by rw [u32w (by omega)]; omega
     refine ⟨⟨by omega,by omega⟩,(G:Int),by rw [Nat.zero_add,Nat.mul_one,u32s_get (by simp; omega),List.getElem_set_self],⟨by omega,by omega⟩,by simp; omega,?_⟩
     have hqset2:(u32s (qs.set j G)).set (0 + j * 1) (.int .u32 ((G - 1:Nat):Int))=u32s (qs.set j (G - 1)):=by rw [Nat.zero_add,Nat.mul_one,u32s_set,List.set_set]
     rw [hw20,hqset2]
     refine ⟨fun z V'=>∃(c' i2:Nat) (gs:List Nat),z=((c':Int),(i2:Int),u32s gs++tl)/\AddI ks (digs Y) j i2 c' gs,fun z=>n8 - z.2.1.toNat,
      ⟨(0,0,u32s ks++tl),by (try dsimp only); and_intros <;> first | exact True.intro | rfl,0,0,ks,rfl,by omega,by omega,rfl,q6,rfl,rfl,by simp⟩,?_⟩
     rintro _ V11 l11 ⟨c',i2,gs,rfl,hA⟩
     dsimp only
     simp only [Int.toNat_natCast]
     have hi2:=hA.hi
     have hgl:=hA.len
     refine ⟨by trivial,fun hc=>?_,fun hc=>?_⟩
     ·have hc:i2 < n8:=by simpa using hc
      obtain ⟨u,d,od,cn,cb,r1,r2,r3,r4,r5,hA'⟩:=hA.step (dig_digs Y) q6 (by omega) (by omega)
      refine (h8.le (l7.trans (l9.trans (l10.trans l11)))).rdq i2 rfl r1 ?_
      have w15:i64.wrap ((j:Int) + i2)=((j + i2:Nat):Int):=by rw [i64w (by omega)]; omega
      have w16:i64.wrap ((i2:Int) + 1)=((i2 + 1:Nat):Int):=by rw [i64w (by omega)]; omega
      rw [w15,w16,Int.toNat_natCast]
      refine ⟨⟨by omega,by omega⟩,_,row_getq r2,⟨by omega,by omega⟩,by simp; omega,by omega,?_⟩
      rw [r3,r4,r5]
      refine ⟨((cb:Int),((i2 + 1:Nat):Int),u32s (gs.set (j + i2) od)++tl),by (try dsimp only); omega,?_,_,_,_,rfl,hA'⟩
      (try dsimp only); and_intros <;> first | exact True.intro | rfl | exact row_set (by omega)
     ·have hc:i2=(digs Y).length:=by simp at hc; omega
      subst hc
      obtain ⟨u,od,kp,r1,r2,r3,r4,r5,r6,r7,r8⟩:=hA.fin q6 (by omega) (by rw [hvl]; exact q9)
      rw [hvl] at r1 r4 r5 r6 r7 r8
      rw [hvs] at r8
      refine ⟨⟨by omega,by omega⟩,_,row_getq r1,⟨by omega,by omega⟩,by simp; omega,?_⟩
      rw [r2,row_set (by omega)]
      have hh9:=hklt _ (by omega) r4 r7
      generalize gs.set (j + n8) od=hs at *
      have hkp1:kp=1:=by
       rcases Nat.eq_zero_or_pos kp with e0 | e0
       ·rw [e0,Nat.mul_zero] at r8; omega
       ·omega
      rw [hkp1,Nat.mul_one] at r8
      refine ⟨((j:Int) - 1,u32s hs++tl,u32s (qs.set j (G - 1))),by (try dsimp only); omega,by (try dsimp only); and_intros <;> first | exact True.intro | rfl,hs,qs.set j (G - 1),rfl,rfl,?_⟩
      exact hO.next hjn (by omega) r4 (by rw [r6,q8]) (by omega) (by omega) (by omega)
 ·have h3:j=-1:=by simp at h3; omega
  subst h3
  obtain ⟨hq,hr⟩:=hO.done hX.symm hY.symm (by omega) hDK.top
  have hdq:=hO.qd
  have hdu:=hO.ud
  intro V8 l8 bk1 bk2 hb1 hb2 J
  have hru:RD V8 (some ⟨bk2,0,none⟩) n8 c7 (us.take n8):=by
   refine ⟨by simp; omega,by omega,fun i v hv=>⟨_,rfl,?_⟩,hdu.take n8,fun e0=>nomatch e0⟩
   rw [add_zero']
   refine blk_at hb2 ?_
   rw [u32s_take,List.getElem?_take] at hv
   split at hv
   ·rename_i hlt
    rw [List.getElem?_append_left (by simp; omega)]; exact hv
   ·cases hv
  refine ⟨⟨by omega,by omega⟩,fun V9 l9=>?_⟩
  refine (c_nat_trim (RD.blk (ds:=qs) hb1 hdq (n:=n + 1 - n8) (c:=n + 1 - n8) (by omega) (Nat.le_refl _) |>.le l9) (by omega)).mono ?_
  rintro r V10 l10 ⟨k1,rfl,g1⟩
  refine ⟨_,_,_,rfl,fun V11 l11=>?_⟩
  rw [Int.toNat_natCast]
  refine (c_nat_Shr (hru.le (l9.trans (l10.trans l11))) (by simp; omega) s (by omega)).mono ?_
  rintro r V12 l12 ⟨p2,n2,c2,rfl,g2⟩
  refine ⟨_,_,_,rfl,fun V13 l13=>⟨_,_,_,_,_,_,rfl,?_,?_⟩⟩
  ·rw [trimD_eq hdq] at g1
   unfold RN
   rw [← hq]; exact g1.le (l11.trans (l12.trans l13))
  ·rw [hr] at g2
   exact g2.le l13
end Go.Proofs.Tryz
/- Contracts of package nat: DivMod. -/
namespace Go.Proofs.Tryz
open Go.Eng Go.Big
theorem c_nat_DivMod {V:View} {p q:OA} {n c m e:Nat} {xa xb:List Nat} (ha:RD V p n c xa) (hb:RD V q m e xb) (hm:xa.length<=1099511627776) (hn:xb.length<=1099511627776) (h0:val xb≠0) :
  Acts prog 287 #[.slice p n c,.slice q m e] V fun r V'=>∃p1 n1 c1 p2 n2 c2,r=.tuple #[.slice p1 n1 c1,.slice p2 n2 c2,.bool true]/\RN V' p1 n1 c1 (val xa / val xb)/\RN V' p2 n2 c2 (val xa % val xb):=by
 have la:=digs_val_len ha.dig
 have lb:=digs_val_len hb.dig
 refine vc_nat_DivMod p n c q m e V _ fun V1 l1=>(c_nat_trim (ha.le l1) (by omega)).mono ?_
 rintro r V2 l2 ⟨n,rfl,hx⟩
 rw [trimD_eq ha.dig] at hx
 refine ⟨_,_,_,rfl,fun V3 l3=>(c_nat_trim (hb.le (l1.trans (l2.trans l3))) (by omega)).mono ?_⟩
 rintro r V4 l4 ⟨m,rfl,hy⟩
 rw [trimD_eq hb.dig] at hy
 replace hx:=hx.le (l3.trans l4)
 generalize val xa=x at *
 generalize val xb=y at *
 have hlx:=hx.len
 have hly:=hy.len
 refine ⟨_,_,_,rfl,fun h1=>?_,fun h1 V6 l6=>(c_nat_Cmp (hx.le l6) (hy.le l6) (by omega) (by omega)).mono ?_⟩
 ·exfalso
  have:digs y=[]:=List.length_eq_zero_iff.1 (by simp at h1; omega)
  exact h0 (digs_eq_nil.1 this)
 rintro r V7 l7 rfl
 rw [val_digs,val_digs]
 replace hx:=hx.le (l6.trans l7)
 replace hy:=hy.le (l6.trans l7)
 refine ⟨_,rfl,fun h2 V8 l8=>(c_slices_Clone (hx.le l8) (by omega)).mono ?_,fun h2=>⟨fun h3=>?_,fun h3 V8 l8=>?_⟩⟩
 ·rintro r V9 l9 ⟨p4,n4,c4,rfl,g1⟩
  have h2:x < y:=by simpa [cmpN_neg] using h2
  refine ⟨_,_,_,rfl,fun V10 l10=>⟨_,_,_,_,_,_,rfl,?_,?_⟩⟩
  ·rw [Nat.div_eq_of_lt h2]; exact RD.nil
  ·rw [Nat.mod_eq_of_lt h2]; exact g1.le l10
 ·have h3:m=1:=by simp at h3; omega
  subst h3
  refine hy.rd0 0 rfl (by omega) fun V8 l8=>?_
  have hd:=(dig_digs y).get (i:=0) (by omega)
  have hyd:y=(digs y)[0]'(by omega):=by
   have e:=val_split (digs y) 0 (by omega)
   rw [val_digs,List.drop_of_length_le (by omega)] at e
   simpa using e
  rw [← hyd] at hd ⊢
  refine (c_nat_short (hx.le l8) (by omega) y h0 hd).mono ?_
  rintro r V9 l9 ⟨p4,n4,c4,rfl,g1⟩
  rw [val_digs] at g1 ⊢
  have hmod:x % y < y:=Nat.mod_lt _ (by omega)
  refine ⟨_,_,_,_,rfl,fun V10 l10=>?_⟩
  rw [u64w (by omega)]
  refine (c_nat_FromUint _ (by omega) (by omega)).mono ?_
  rintro r V11 l11 ⟨p5,n5,c5,rfl,g2⟩
  exact ⟨_,_,_,rfl,fun V12 l12=>⟨_,_,_,_,_,_,rfl,g1.le (l10.trans (l11.trans l12)),g2.le l12⟩⟩
 ·have h2:y<=x:=by simpa [← Int.not_lt,cmpN_neg] using h2
  have hm2:2<=m:=by
   have:¬ (m:Int)=1:=by simpa using h3
   have:digs y≠[]:=fun e=>h0 (digs_eq_nil.1 e)
   have:(digs y).length≠0:=fun e=>this (List.length_eq_zero_iff.1 e)
   omega
  refine (c_nat_long (hx.le l8) (hy.le l8) (by omega) hm2 h2).mono ?_
  rintro r V9 l9 ⟨p4,n4,c4,p5,n5,c5,rfl,g1,g2⟩
  exact ⟨_,_,_,_,_,_,rfl,fun V10 l10=>⟨_,_,_,_,_,_,rfl,g1.le l10,g2.le l10⟩⟩
theorem gcd_step (x y:Nat):Nat.gcd y (x % y)=Nat.gcd x y:=by
 rw [Nat.gcd_comm x y,Nat.gcd_rec y x,Nat.gcd_comm]
theorem c_nat_Gcd {V:View} {p q:OA} {n c m e:Nat} {xa xb:List Nat} (ha:RD V p n c xa) (hb:RD V q m e xb) (hm:xa.length<=1099511627776) (hn:xb.length<=1099511627776) :
  Acts prog 265 #[.slice p n c,.slice q m e] V fun r V'=>∃p1 n1 c1,r=.slice p1 n1 c1/\RN V' p1 n1 c1 (Nat.gcd (val xa) (val xb)):=by
 have la:=digs_val_len ha.dig
 have lb:=digs_val_len hb.dig
 refine vc_nat_Gcd p n c q m e V _ fun V1 l1=>(c_nat_Norm (ha.le l1) hm).mono ?_
 rintro r V2 l2 ⟨p1,n1,c1,rfl,hx⟩
 refine ⟨_,_,_,rfl,fun V3 l3=>(c_nat_Norm (hb.le (l1.trans (l2.trans l3))) hn).mono ?_⟩
 rintro r V4 l4 ⟨q1,m1,e1,rfl,hy⟩
 replace hx:=hx.le (l3.trans l4)
 refine ⟨_,_,_,rfl,fun z k V'=>∃x y:Nat,RN V' z.1 z.2.1 z.2.2.1 x/\RN V' z.2.2.2.1 z.2.2.2.2.1 z.2.2.2.2.2 y/\Nat.gcd x y=Nat.gcd (val xa) (val xb)/\k=y/\(digs x).length<=1099511627776/\(digs y).length<=1099511627776,
  ⟨(p1,n1,c1,q1,m1,e1),val xb,by (try dsimp only); and_intros <;> trivial,val xa,val xb,hx,hy,rfl,rfl,by omega,by omega⟩,?_⟩
 rintro ⟨p,n,c,q,m,e⟩ k V5 l5 ⟨x,y,hx,hy,hg,hk,hx1,hy1⟩
 dsimp only at hx hy ⊢
 have hlx:=hx.len
 have hly:=hy.len
 rw [← hg]
 have stop:m=0->y=0:=fun h=>digs_eq_nil.1 (List.length_eq_zero_iff.1 (by omega))
 have more:∀V7:View,V5.Le V7->m≠0->Acts prog 287 #[.slice p n c,.slice q m e] V7 fun r V8=>∃p1 n1 c1 p2 n2 c2,r=.tuple #[.slice p1 n1 c1,.slice p2 n2 c2,.bool true]/\RN V8 p2 n2 c2 (x % y)/\x % y < y/\Nat.gcd y (x % y)=Nat.gcd (val xa) (val xb)/\(digs (x % y)).length<=1099511627776/\V7.Le V8:=by
  intro V7 l7 h
  have hy0:y≠0:=by
   intro e0; subst e0
   rw [digs_zero] at hly; simp at hly; omega
  have hlt:x % y < y:=Nat.mod_lt _ (by omega)
  refine (c_nat_DivMod (hx.le l7) (hy.le l7) hx1 hy1 (by rw [val_digs]; exact hy0)).mono ?_
  rintro r V8 l8 ⟨p4,n4,c4,p5,n5,c5,rfl,g1,g2⟩
  rw [val_digs,val_digs] at g2
  exact ⟨_,_,_,_,_,_,rfl,g2,hlt,by rw [gcd_step,hg],Nat.le_trans (digs_len_mono (by omega)) hy1,l8⟩
 refine ⟨by trivial,fun h1=>⟨fun h2 V6 l6=>?_,fun h2 V7 l7=>(more V7 l7 ?_).mono ?_⟩,fun h1=>⟨fun h1'=>⟨fun h2 V6 l6=>?_,fun h2 V7 l7=>(more V7 l7 ?_).mono ?_⟩,fun h1' V12 l12=>?_⟩⟩
 ·rw [stop (by simp at h2; omega),Nat.gcd_zero_right]
  rw [stop (by simp at h2; omega)] at hg
  exact ⟨_,_,_,rfl,hx.le l6⟩
 ·simp at h2; omega
 ·rintro r V8 l8 ⟨p4,n4,c4,p5,n5,c5,rfl,g2,hlt,hg',hl',l9⟩
  exact ⟨_,_,_,_,_,_,_,rfl,(q,m,e,p5,n5,c5),x % y,(by omega),by (try dsimp only); and_intros <;> trivial,y,x % y,hy.le (l7.trans l9),g2,hg'.trans hg.symm,rfl,hy1,hl'⟩
 ·rw [stop (by simp at h2; omega),Nat.gcd_zero_right]
  exact ⟨_,_,_,rfl,hx.le l6⟩
 ·simp at h2; omega
 ·rintro r V8 l8 ⟨p4,n4,c4,p5,n5,c5,rfl,g2,hlt,hg',hl',l9⟩
  exact ⟨_,_,_,_,_,_,_,rfl,(q,m,e,p5,n5,c5),x % y,(by omega),by (try dsimp only); and_intros <;> trivial,y,x % y,hy.le (l7.trans l9),g2,hg'.trans hg.symm,rfl,hy1,hl'⟩
 ·have hn2:n<=2:=by simp at h1; omega
  have hm2:m<=2:=by simp at h1'; omega
  have hx2:x < 18446744073709551616:=(digs_len_le (k:=2)).1 (by omega)
  have hy2:y < 18446744073709551616:=(digs_len_le (k:=2)).1 (by omega)
  refine (c_nat_Uint (hx.le l12) (by omega)).mono ?_
  rintro r V13 l13 rfl
  rw [val_digs,if_pos hx2]
  refine ⟨_,_,rfl,fun V14 l14=>(c_nat_Uint (hy.le (l12.trans (l13.trans l14))) (by omega)).mono ?_⟩
  rintro r V15 l15 rfl
  rw [val_digs,if_pos hy2]
  refine ⟨_,_,rfl,fun z V'=>∃a b:Nat,z=((a:Int),(b:Int))/\Nat.gcd a b=Nat.gcd x y/\a < 18446744073709551616/\b < 18446744073709551616,fun z=>z.2.toNat,
   ⟨((x:Int),(y:Int)),by (try dsimp only); and_intros <;> trivial,x,y,rfl,rfl,hx2,hy2⟩,?_⟩
  rintro _ V16 l16 ⟨a,b,rfl,hab,ha2,hb2⟩
  dsimp only
  refine ⟨by trivial,fun h3=>?_,fun h3 V17 l17=>?_⟩
  ·have h3:b≠0:=by rw [bne_iff_ne] at h3; omega
   have hlt:a % b < b:=Nat.mod_lt _ (by omega)
   have e4:(a:Int).tmod (b:Int)=((a % b:Nat):Int):=by rw [Int.tmod_eq_emod_of_nonneg (by omega),← Int.natCast_emod]
   rw [e4]
   exact ⟨by omega,((b:Int),((a % b:Nat):Int)),by (try dsimp only); rw [Int.toNat_natCast,Int.toNat_natCast]; exact hlt,by (try dsimp only); and_intros <;> trivial,b,a % b,rfl,by rw [gcd_step,hab],hb2,Nat.lt_trans hlt hb2⟩
  ·have h3:b=0:=by rw [bne_eq_false_iff_eq] at h3; omega
   subst h3
   rw [Nat.gcd_zero_right] at hab
   refine (c_nat_FromUint _ (by omega) (by omega)).mono ?_
   rintro r V18 l18 ⟨p4,n4,c4,rfl,g1⟩
   refine ⟨_,_,_,rfl,fun V19 l19=>⟨_,_,_,rfl,?_⟩⟩
   rw [← hab]
   exact g1.le l19
end Go.Proofs.Tryz
/- Contracts of the reference's numbers: Trim, Word, One, sign, Cmp, Sum, Less. -/
namespace Go.Proofs.Tryz
open Go.Eng Go.Big
theorem c_num_Trim {V:View} {p:OA} {n c:Nat} {ds:List Nat} (h:RD V p n c ds) (hm:ds.length<=4611686018427387904) :
  Acts prog 178 #[.slice p n c] V fun r V'=>∃k,r=.slice p k c/\RD V' p k c (trimD ds):=by
 have hl:=h.len
 have hcp:=h.cap
 refine vc_num_Trim p n c V _ ?_
 refine ⟨fun z V'=>0<=z/\z<=n/\trimD (ds.take z.toNat)=trimD ds,fun z=>z.toNat,⟨n,by (try dsimp only); and_intros <;> first | exact True.intro | rfl,by (try dsimp only); omega,by (try dsimp only); omega,?_⟩,?_⟩
 ·simp [hl]
 ·rintro k V1 l1 ⟨hk0,hk,ht⟩
  obtain ⟨k,rfl⟩:=Int.eq_ofNat_of_zero_le hk0
  dsimp only at hk ht ⊢
  simp only [Int.toNat_natCast] at ht
  refine ⟨rfl,fun h0=>?_,fun h0=>?_⟩
  ·have h0:0 < k:=by simpa using h0
   have w:i64.wrap ((k:Int) - 1)=((k - 1:Nat):Int):=by rw [i64w (by omega)]; omega
   simp only [w]
   have hs:ds.take k=ds.take (k - 1)++[ds[k - 1]]:=by rw [← List.take_succ_eq_append_getElem (by omega),Nat.sub_add_cancel h0]
   refine (h.le l1).rd (k - 1) rfl (by omega) ⟨fun hz=>?_,fun hz=>?_⟩
   ·have hz:ds[k - 1]=0:=by simpa using hz
    refine ⟨_,?_,by (try dsimp only); and_intros <;> first | exact True.intro | rfl,?_,?_,?_⟩
    ·(try dsimp only); omega
    ·(try dsimp only); omega
    ·(try dsimp only); omega
    ·(try dsimp only)
     rw [← ht,hs,hz,trimD_snoc_zero]; rfl
   ·have hz:ds[k - 1]≠0:=by simpa using hz
    refine ⟨⟨by omega,by omega⟩,fun V2 l2=>⟨k,rfl,?_⟩⟩
    rw [← ht,hs,trimD_snoc _ _ hz,← hs]
    exact ((h.le l1).le l2).take (by omega)
  ·have h0:k=0:=by simpa using h0
   subst h0
   refine ⟨⟨by omega,by omega⟩,fun V2 l2=>⟨0,rfl,?_⟩⟩
   rw [← ht]
   exact ((h.le l1).le l2).take (by omega)
theorem c_num_Word {V:View} (u:Nat) (h1:u < 18446744073709551616) :
  Acts prog 177 #[.int .u64 (u:Int)] V fun r V'=>∃q k c',r=.slice q k c'/\RN V' q k c' u:=by
 refine vc_num_Word _ V _ ⟨by omega,fun V1 l1 bk hb=>?_⟩
 rw [shr32,u32m,u32w (by omega)] at hb
 have hb:V1.blk bk (.cells (u32s [u % 4294967296,u / 4294967296]).toArray 264 (0,0)):=by
  simpa [u32s] using hb
 have hd:Dig [u % 4294967296,u / 4294967296]:=by simp [Dig]; omega
 refine (c_num_Trim (RD.blk hb hd (n:=2) (c:=2) rfl (Nat.le_refl _)) (by simp)).mono ?_
 rintro r V2 l2 ⟨k,rfl,h2⟩
 refine ⟨_,_,_,rfl,fun _ V3 l3=>⟨_,_,_,rfl,?_⟩⟩
 rw [trimD_eq hd] at h2
 have:val [u % 4294967296,u / 4294967296]=u:=by simp; omega
 rw [this] at h2
 exact h2.le l3
theorem c_num_One {V:View} :
  Acts prog 176 #[] V fun r V'=>∃q k c',r=.slice q k c'/\RN V' q k c' 1:=by
 refine vc_num_One V _ fun V1 l1 bk hb=>⟨_,_,_,rfl,?_⟩
 have hd:digs 1=[1]:=digs_lt (by omega) (by omega)
 unfold RN
 rw [hd]
 have hb:V1.blk bk (.cells (u32s [1]).toArray 264 (0,0)):=by
  simpa [u32s] using hb
 exact RD.blk hb (by simp [Dig]) rfl (Nat.le_refl _)
def sgnI (x:Int):Int:=if 0 < x then 1 else if x < 0 then -1 else 0
theorem c_num_sign {V:View} (x:Int) :
  Acts prog 249 #[.int .i64 x] V fun r V'=>r=.int .i64 (sgnI x):=by
 refine vc_num_sign x V _ ⟨fun h V1 l1=>?_,fun h=>⟨fun h2 V1 l1=>?_,fun h2 V1 l1=>?_⟩⟩
 ·have h:0 < x:=by simpa using h
  rw [sgnI,if_pos h]
 ·have h:x < 0:=by simpa using h2
  rw [sgnI,if_neg (by omega),if_pos h]
 ·have h:¬ 0 < x:=by simpa using h
  have h2:¬ x < 0:=by simpa using h2
  rw [sgnI,if_neg h,if_neg h2]
theorem c_num_Cmp {V:View} {p q:OA} {n c m e:Nat} {x y:Nat} (ha:RN V p n c x) (hb:RN V q m e y) (hm:(digs x).length<=1099511627776) (hn:(digs y).length<=1099511627776) :
  Acts prog 174 #[.slice p n c,.slice q m e] V fun r V'=>r=.int .i64 (cmpN x y):=by
 have hl1:=ha.len
 have hl2:=hb.len
 refine vc_num_Cmp p n c q m e V _ ⟨fun h0 V1 l1=>?_,fun h0=>?_⟩
 ·have w:i64.wrap ((n:Int) - m)=(n:Int) - m:=i64w (by omega)
  simp only [w]
  refine (c_num_sign _).mono ?_
  rintro r V2 l2 rfl
  refine ⟨_,rfl,fun V3 l3=>?_⟩
  have h0:n≠m:=by simp at h0; omega
  congr 1
  rcases Nat.lt_or_ge n m with h | h
  ·have:=lt_of_len (a:=x) (b:=y) (by omega)
   rw [cmpN,if_pos this,sgnI,if_neg (by omega),if_pos (by omega)]
  ·have:=lt_of_len (a:=y) (b:=x) (by omega)
   rw [cmpN,if_neg (by omega),if_pos this,sgnI,if_pos (by omega)]
 ·have h0:n=m:=by simp at h0; omega
  subst h0
  have w:i64.wrap ((n:Int) - 1)=(n:Int) - 1:=i64w (by omega)
  simp only [w]
  refine ⟨fun z V'=>-1<=z/\z < n/\(digs x).drop (z + 1).toNat=(digs y).drop (z + 1).toNat,fun z=>(z + 1).toNat,⟨_,by (try dsimp only); and_intros <;> first | exact True.intro | rfl,by (try dsimp only); omega,by (try dsimp only); omega,?_⟩,?_⟩
  ·(try dsimp only)
   rw [List.drop_of_length_le (by omega),List.drop_of_length_le (by omega)]
  ·rintro i V7 l7 ⟨hi0,hi1,hd⟩
   dsimp only at hi0 hi1 hd ⊢
   refine ⟨by trivial,fun h3=>?_,fun h3 V5 l5=>?_⟩
   ·have h3:0<=i:=by simpa using h3
    obtain ⟨i,rfl⟩:=Int.eq_ofNat_of_zero_le h3
    have w:i64.wrap ((i:Int) - 1)=(i:Int) - 1:=i64w (by omega)
    simp only [w]
    have hd':(digs x).drop (i + 1)=(digs y).drop (i + 1):=hd
    refine (ha.le l7).rd i rfl (by omega) ((hb.le l7).rd i rfl (by omega) ⟨fun h4 V8 l8=>?_,fun h4=>?_⟩)
    ·have:=lt_of_digit (dig_digs y) (by omega) (by omega) hd'.symm (by simpa using h4)
     rw [val_digs,val_digs] at this
     rw [cmpN,if_neg (by omega),if_pos this]
    ·refine (ha.le l7).rd i rfl (by omega) ((hb.le l7).rd i rfl (by omega) ⟨fun h5 V8 l8=>?_,fun h5=>?_⟩)
     ·have:=lt_of_digit (dig_digs x) (by omega) (by omega) hd' (by simpa using h5)
      rw [val_digs,val_digs] at this
      rw [cmpN,if_pos this]
     ·refine ⟨_,?_,by (try dsimp only); and_intros <;> first | exact True.intro | rfl,?_,?_,?_⟩
      ·(try dsimp only); omega
      ·(try dsimp only); omega
      ·(try dsimp only); omega
      ·(try dsimp only)
       have:((i:Int) - 1 + 1).toNat=i:=by omega
       rw [this,List.drop_eq_getElem_cons (by omega),List.drop_eq_getElem_cons (l:=digs y) (by omega),hd']
       congr 1
       simp at h4 h5
       omega
   ·have h3:i=-1:=by simp at h3; omega
    subst h3
    have:digs x=digs y:=by simpa using hd
    have:=digs_inj this
    subst this
    simp [cmpN]
theorem maxI_nat (a b:Nat):maxI (a:Int) (b:Int)=((max a b:Nat):Int):=by
 unfold maxI
 split <;> omega
theorem c_num_Sum {V:View} {p q:OA} {n c m e:Nat} {xs ys:List Nat} (hx:RD V p n c xs) (hy:RD V q m e ys) (hm:xs.length<=1099511627776) (hn:ys.length<=1099511627776) :
  Acts prog 173 #[.slice p n c,.slice q m e] V fun r V'=>∃p' n' c',r=.slice p' n' c'/\RN V' p' n' c' (val xs + val ys):=by
 have hlx:=hx.len
 have hly:=hy.len
 have vc:=vc_num_Sum p n c q m e V
 have w:i64.wrap (((max n m:Nat):Int) + 1)=((max n m + 1:Nat):Int):=by rw [i64w (by omega)]; omega
 simp only [maxI_nat,w,Int.toNat_natCast] at vc
 obtain ⟨k,hk⟩:∃k,k=max n m:=⟨_,rfl⟩
 rw [← hk] at vc
 refine vc _ ⟨by omega,by omega,by omega,fun z V'=>0<=z.1/\z.1<=1/\0<=z.2.1/\z.2.1<=k/\∃es:List Nat,z.2.2=u32s es/\es.length=k + 1/\Dig es /\
   val (es.take z.2.1.toNat) + 4294967296 ^ z.2.1.toNat * z.1.toNat=val (xs.take z.2.1.toNat) + val (ys.take z.2.1.toNat),fun z=>k - z.2.1.toNat,⟨(0,0,u32s (List.replicate (k + 1) 0)),by (try dsimp only); and_intros <;> first | exact True.intro | rfl | exact u32s_rep _,by (try dsimp only); omega,by (try dsimp only); omega,by (try dsimp only); omega,by (try dsimp only); omega,_,rfl,by simp,Dig.rep _,by simp⟩,?_⟩
 rintro ⟨cy,i,vs⟩ V2 l2 ⟨hc0,hc1,hi0,hi1,es,rfl,hes,hde,hv⟩
 dsimp only at hc0 hc1 hi0 hi1 hv ⊢
 obtain ⟨i,rfl⟩:=Int.eq_ofNat_of_zero_le hi0
 obtain ⟨cy,rfl⟩:=Int.eq_ofNat_of_zero_le hc0
 simp only [Int.toNat_natCast] at hv
 refine ⟨by trivial,fun h3=>?_,fun h3=>?_⟩
 ·have h3:i < k:=by simpa using h3
  refine ⟨fun z V'=>∃x:Nat,z=x/\x < 4294967296/\val (xs.take (i + 1))=val (xs.take i) + 4294967296 ^ i * x,⟨fun h4=>?_,fun h4=>?_⟩,?_⟩
  ·have h4:i < n:=by simpa using h4
   refine (hx.le l2).rd i rfl (by omega) ?_
   exact ⟨_,by (try dsimp only); and_intros <;> first | exact True.intro | rfl,xs[i],rfl,hx.dig.get (by omega),val_take_succ _ _ (by omega)⟩
  ·have h4:n<=i:=by simpa using h4
   exact ⟨_,by (try dsimp only); and_intros <;> first | exact True.intro | rfl,0,rfl,by omega,by rw [val_take_of_le (by omega),val_take_of_le (by omega)]; simp⟩
  rintro _ V3 l3 ⟨x,rfl,hx1,hx2⟩
  refine ⟨by trivial,fun z V'=>∃y:Nat,z=y/\y < 4294967296/\val (ys.take (i + 1))=val (ys.take i) + 4294967296 ^ i * y,⟨fun h4=>?_,fun h4=>?_⟩,?_⟩
  ·have h4:i < m:=by simpa using h4
   refine ((hy.le l2).le l3).rd i rfl (by omega) ?_
   exact ⟨_,by (try dsimp only); and_intros <;> first | exact True.intro | rfl,ys[i],rfl,hy.dig.get (by omega),val_take_succ _ _ (by omega)⟩
  ·have h4:m<=i:=by simpa using h4
   exact ⟨_,by (try dsimp only); and_intros <;> first | exact True.intro | rfl,0,rfl,by omega,by rw [val_take_of_le (by omega),val_take_of_le (by omega)]; simp⟩
  rintro _ V4 l4 ⟨y,rfl,hy1,hy2⟩
  refine ⟨by trivial,fun V5 l5=>(c_Add32 x y cy hx1 hy1 (by omega)).mono ?_⟩
  rintro r V6 l6 rfl
  have w:i64.wrap ((i:Int) + 1)=((i + 1:Nat):Int):=by rw [i64w (by omega)]; omega
  simp only [w,Int.toNat_natCast]
  refine ⟨_,_,rfl,⟨by omega,by omega⟩,by simp; omega,(((x + y + cy) / 4294967296:Nat),((i + 1:Nat):Int),u32s (es.set i ((x + y + cy) % 4294967296))),?_,by (try dsimp only); and_intros <;> first | exact True.intro | rfl | (rw [← u32s_set]; simp),?_⟩
  ·(try dsimp only); omega
  ·(try dsimp only)
   refine ⟨by omega,by omega,by omega,by omega,_,rfl,by simpa using hes,hde.set _ _ (by omega),?_⟩
   simp only [Int.toNat_natCast]
   rw [val_take_set _ _ _ (by omega),Nat.pow_succ,hx2,hy2]
   exact add_step hv (by omega)
 ·have h3:i=k:=by simp at h3; omega
  subst h3
  refine ⟨⟨by omega,by omega⟩,by simp; omega,fun V3 l3 bk hb=>?_⟩
  have e1:(u32s es).set (0 + ((i:Int).toNat) * 1) (.int .u32 (cy:Int))=u32s (es.set i cy):=by rw [← u32s_set]; simp
  simp only [Int.toNat_natCast] at e1
  try simp only [Int.toNat_natCast] at hb
  rw [e1] at hb
  have hd2:=hde.set i cy (by omega)
  refine (c_num_Trim (RD.blk hb hd2 (n:=i + 1) (c:=i + 1) (by simp; omega) (Nat.le_refl _)) (by simp; omega)).mono ?_
  rintro r V4 l4 ⟨k,rfl,h4⟩
  refine ⟨_,_,_,rfl,fun _ V5 l5=>⟨_,_,_,rfl,?_⟩⟩
  rw [trimD_eq hd2] at h4
  have e2:val (es.set i cy)=val xs + val ys:=by
   have:=val_take_set es i cy (by omega)
   rw [val_take_of_le (by simp; omega)] at this
   rw [this,hv,val_take_of_le (by omega),val_take_of_le (by omega)]
  rw [e2] at h4
  exact h4.le l5
theorem sub32_step {E A B c x y W d b:Nat} (h:E + B=A + W * c) (hv:d + (y + c)=x + 4294967296 * b) :
  E + W * d + (B + W * y)=A + W * x + W * 4294967296 * b:=by
 have:=congrArg (W * ·) hv
 simp only [Nat.mul_add,← Nat.mul_assoc] at this
 omega
theorem c_num_Less {V:View} {p q:OA} {n c m e:Nat} {xs ys:List Nat} (hx:RD V p n c xs) (hy:RD V q m e ys) (hm:xs.length<=1099511627776) (hl:ys.length<=xs.length) (hle:val ys<=val xs) :
  Acts prog 175 #[.slice p n c,.slice q m e] V fun r V'=>∃p' n' c',r=.slice p' n' c'/\RN V' p' n' c' (val xs - val ys):=by
 have hlx:=hx.len
 have hly:=hy.len
 refine vc_num_Less p n c q m e V _ ⟨by omega,by omega,by omega,fun z V'=>0<=z.1/\z.1<=1/\0<=z.2.1/\z.2.1<=n/\∃es:List Nat,z.2.2=u32s es/\es.length=n/\Dig es /\
   val (es.take z.2.1.toNat) + val (ys.take z.2.1.toNat)=val (xs.take z.2.1.toNat) + 4294967296 ^ z.2.1.toNat * z.1.toNat,fun z=>n - z.2.1.toNat,
   ⟨(0,0,List.replicate n (.int .u32 0)),by (try dsimp only); and_intros <;> first | exact True.intro | rfl,by (try dsimp only); omega,by (try dsimp only); omega,by (try dsimp only); omega,by (try dsimp only); omega,List.replicate n 0,u32s_rep n,by simp,Dig.rep _,by simp⟩,?_⟩
 rintro ⟨cy,i,vs⟩ V2 l2 ⟨hc0,hc1,hi0,hi1,es,rfl,hes,hde,hv⟩
 dsimp only at hc0 hc1 hi0 hi1 hv ⊢
 obtain ⟨i,rfl⟩:=Int.eq_ofNat_of_zero_le hi0
 obtain ⟨cy,rfl⟩:=Int.eq_ofNat_of_zero_le hc0
 simp only [Int.toNat_natCast] at hv
 refine ⟨by trivial,fun h3=>?_,fun h3=>?_⟩
 ·have h3:i < n:=by simpa using h3
  refine ⟨fun z V'=>∃y:Nat,z=y/\y < 4294967296/\val (ys.take (i + 1))=val (ys.take i) + 4294967296 ^ i * y,⟨fun h4=>?_,fun h4=>?_⟩,?_⟩
  ·have h4:i < m:=by simpa using h4
   refine (hy.le l2).rd i rfl (by omega) ?_
   exact ⟨_,by (try dsimp only); and_intros <;> first | exact True.intro | rfl,ys[i],rfl,hy.dig.get (by omega),val_take_succ _ _ (by omega)⟩
  ·have h4:m<=i:=by simpa using h4
   exact ⟨_,by (try dsimp only); and_intros <;> first | exact True.intro | rfl,0,rfl,by omega,by rw [val_take_of_le (by omega),val_take_of_le (by omega)]; simp⟩
  rintro _ V3 l3 ⟨y,rfl,hy1,hy2⟩
  refine ⟨by trivial,?_⟩
  refine ((hx.le l2).le l3).rd i rfl (by omega) fun V4 l4=>(c_Sub32 _ y cy (hx.dig.get (by omega)) hy1 (by omega)).mono ?_
  rintro r V5 l5 ⟨d,b,rfl,hd,hb,hdb⟩
  have w:i64.wrap ((i:Int) + 1)=((i + 1:Nat):Int):=by rw [i64w (by omega)]; omega
  simp only [w,Int.toNat_natCast]
  refine ⟨_,_,rfl,⟨by omega,by omega⟩,by simp; omega,((b:Int),((i + 1:Nat):Int),u32s (es.set i d)),?_,by (try dsimp only); and_intros <;> first | exact True.intro | rfl | (rw [← u32s_set]; simp),?_⟩
  ·(try dsimp only); omega
  ·(try dsimp only)
   refine ⟨by omega,by omega,by omega,by omega,_,rfl,by simpa using hes,hde.set _ _ (by omega),?_⟩
   simp only [Int.toNat_natCast]
   rw [val_take_set _ _ _ (by omega),Nat.pow_succ,val_take_succ xs i (by omega),hy2]
   exact sub32_step hv hdb
 ·have h3:i=n:=by simp at h3; omega
  subst h3
  simp only [Int.toNat_natCast]
  intro V3 l3 bk hb
  refine (c_num_Trim (RD.blk hb hde (n:=i) (c:=i) hes.symm (Nat.le_refl _)) (by omega)).mono ?_
  rintro r V4 l4 ⟨k,rfl,h4⟩
  refine ⟨_,_,_,rfl,fun _ V5 l5=>⟨_,_,_,rfl,?_⟩⟩
  rw [trimD_eq hde] at h4
  rw [val_take_of_le (by omega),val_take_of_le (by omega),val_take_of_le (by omega)] at hv
  have e1:=val_lt hde
  rw [hes] at e1
  have e2:cy=0:=by
   rcases Nat.eq_zero_or_pos cy with h | h
   ·exact h
   ·have:4294967296 ^ i * 1<=4294967296 ^ i * cy:=Nat.mul_le_mul_left _ h
    omega
  subst e2
  rw [show val es=val xs - val ys from by omega] at h4
  exact h4.le l5
end Go.Proofs.Tryz
/- Contracts of the reference's numbers: Product, word, Left. -/
namespace Go.Proofs.Tryz
open Go.Eng Go.Big
theorem rdOne {V:View} {p:OA} {n c:Nat} {ds:List Nat} (h:RD V p n c ds) {K:Int->Prop} (hn:0 < ds.length)
  (hK:K ((ds[0]:Nat):Int)):(p.isSome=true)/\(0<=(0:Int)/\(0:Int) < (n:Int))/\∃x:Int,(∃a,addrAdd p 0=some a/\V.at a (.int .u32 x))/\K x:=by
 have:=h.rd (i:=0) (K:=K) 0 rfl hn hK
 simpa using this
theorem rdAt {V:View} {p:OA} {n c:Nat} {ds:List Nat} (h:RD V p n c ds) {K:Int->Prop} (j:Nat) (hn:j < ds.length)
  (hK:K ((ds[j]:Nat):Int)):(p.isSome=true)/\(0<=(j:Int)/\(j:Int) < (n:Int))/\∃x:Int,(∃a,addrAdd p j=some a/\V.at a (.int .u32 x))/\K x:=by
 have:=h.rd (i:=j) (K:=K) j rfl hn hK
 simpa using this
theorem one_of_len {ds:List Nat} (h:ds.length=1):∃a,ds=[a]:=by
 match ds,h with
 | [a],_=>exact ⟨a,rfl⟩
theorem two_of_len {ds:List Nat} (h:ds.length=2):∃a b,ds=[a,b]:=by
 match ds,h with
 | [a,b],_=>exact ⟨a,b,rfl⟩
theorem c_num_Product {V:View} {p q:OA} {n c m e:Nat} {xs ys:List Nat} (hx:RD V p n c xs) (hy:RD V q m e ys) (hm:xs.length + ys.length<=1099511627776) :
  Acts prog 105 #[.slice p n c,.slice q m e] V fun r V'=>∃p' n' c',r=.slice p' n' c'/\RN V' p' n' c' (val xs * val ys):=by
 have hlx:=hx.len
 have hly:=hy.len
 have hnm':((n:Int) + m).toNat=n + m:=by omega
 have w:i64.wrap ((n:Int) + m)=(n:Int) + m:=i64w (by omega)
 have vc:=vc_num_Product p n c q m e V
 simp only [w,hnm',u32s_rep] at vc
 refine (fun tail=>vc _ ⟨fun h0=>⟨fun h1=>?_,fun _=>tail⟩,fun _=>tail⟩) ?_
 ·have h0:n=1:=by simp at h0; omega
  have h1:m=1:=by simp at h1; omega
  clear tail vc
  obtain ⟨a,rfl⟩:=one_of_len (ds:=xs) (by omega)
  obtain ⟨b,rfl⟩:=one_of_len (ds:=ys) (by omega)
  have hdx:=hx.dig.get (i:=0) (by simp)
  have hdy:=hy.dig.get (i:=0) (by simp)
  refine rdOne hx (by simp) (rdOne hy (by simp) fun V1 l1=>?_)
  simp only [List.getElem_cons_zero] at hdx hdy ⊢
  have hab:a * b<=4294967295 * 4294967295:=Nat.mul_le_mul (by omega) (by omega)
  have e1:u64.wrap (a:Int)=a:=u64w (by omega)
  have e2:u64.wrap (b:Int)=b:=u64w (by omega)
  have e3:(a:Int) * (b:Int)=((a * b:Nat):Int):=by simp
  have e4:u64.wrap ((a * b:Nat):Int)=((a * b:Nat):Int):=u64w (by omega)
  rw [e1,e2,e3,e4]
  refine (c_num_Word (a * b) (by omega)).mono ?_
  rintro r V2 l2 ⟨p',n',c',rfl,h⟩
  refine ⟨_,_,_,rfl,fun V3 l3=>⟨_,_,_,rfl,?_⟩⟩
  simp only [val_cons,val_nil,Nat.mul_zero,Nat.add_zero]
  exact h.le l3
 refine ⟨by omega,by omega,by omega,fun z V'=>0<=z.1/\z.1<=n/\∃es:List Nat,z.2=u32s es/\es.length=n + m/\Dig es /\
  val (es.take (z.1.toNat + m))=val (xs.take z.1.toNat) * val ys,fun z=>n - z.1.toNat,⟨(0,u32s (List.replicate (n + m) 0)),by (try dsimp only); and_intros <;> first | exact True.intro | rfl,by (try dsimp only); omega,by (try dsimp only); omega,_,rfl,by simp,Dig.rep _,by simp [val_rep,List.take_replicate]⟩,?_⟩
 rintro ⟨i,vs⟩ V5 l5 ⟨hi0,hi1,es,rfl,hes,hde,hv⟩
 dsimp only at hi0 hi1 hv ⊢
 obtain ⟨i,rfl⟩:=Int.eq_ofNat_of_zero_le hi0
 simp only [Int.toNat_natCast] at hv
 refine ⟨by trivial,fun h3=>?_,fun h3=>?_⟩
 ·have h3:i < n:=by simpa using h3
  refine (hx.le l5).rd i rfl (by omega) ?_
  have hdx:=hx.dig.get (i:=i) (by omega)
  refine ⟨fun z V'=>0<=z.1/\z.1<=4294967295/\0<=z.2.1/\z.2.1<=m/\∃fs:List Nat,z.2.2=u32s fs/\fs.length=n + m/\Dig fs/\fs.drop (i + z.2.1.toNat)=es.drop (i + z.2.1.toNat) /\
   val (fs.take (i + z.2.1.toNat)) + 4294967296 ^ (i + z.2.1.toNat) * z.1.toNat=val (es.take (i + z.2.1.toNat)) + 4294967296 ^ i * xs[i] * val (ys.take z.2.1.toNat),fun z=>m - z.2.1.toNat,
   ⟨(0,0,u32s es),by (try dsimp only); and_intros <;> first | exact True.intro | rfl,by (try dsimp only); omega,by (try dsimp only); omega,by (try dsimp only); omega,by (try dsimp only); omega,es,rfl,hes,hde,rfl,by simp⟩,?_⟩
  rintro ⟨cy,k,vs⟩ V6 l6 ⟨hc0,hc1,hk0,hk1,fs,rfl,hfs,hdf,hdr,hw⟩
  dsimp only at hc0 hc1 hk0 hk1 hdr hw ⊢
  obtain ⟨k,rfl⟩:=Int.eq_ofNat_of_zero_le hk0
  obtain ⟨cy,rfl⟩:=Int.eq_ofNat_of_zero_le hc0
  simp only [Int.toNat_natCast] at hdr hw
  refine ⟨by trivial,fun h4=>?_,fun h4=>?_⟩
  ·have h4:k < m:=by simpa using h4
   refine (hy.le (l5.trans l6)).rd k rfl (by omega) ?_
   have hdy:=hy.dig.get (i:=k) (by omega)
   have hdf':=hdf.get (i:=i + k) (by omega)
   have hef:fs[i + k]'(by omega)=es[i + k]'(by omega):=by
    have h1:fs[i + k]?=es[i + k]?:=by
     have:=congrArg (fun l=>l[0]?) hdr
     simpa [List.getElem?_drop] using this
    rw [List.getElem?_eq_getElem (by omega),List.getElem?_eq_getElem (by omega)] at h1
    exact Option.some.inj h1
   simp (disch:=omega) only [i64w]
   have hik:((i:Int) + k).toNat=i + k:=by omega
   rw [hik]
   refine ⟨⟨by omega,by omega⟩,((fs[i + k]'(by omega):Nat):Int),by rw [Nat.zero_add,Nat.mul_one]; exact u32s_get (by omega),⟨by omega,by omega⟩,by simp; omega,by omega,?_⟩
   have hxy:xs[i] * ys[k]<=4294967295 * 4294967295:=Nat.mul_le_mul (by omega) (by omega)
   have hxyc:(xs[i]:Int) * (ys[k]:Int)=((xs[i] * ys[k]:Nat):Int):=by simp
   obtain ⟨t,ht⟩:∃t:Nat,t=cy + xs[i] * ys[k] + fs[i + k]'(by omega):=⟨_,rfl⟩
   rw [Nat.pow_add] at hw
   have hstep:=mul_step hw ht
   have e1:u64.wrap (u64.wrap (u64.wrap (u64.wrap (xs[i]:Int) * u64.wrap (ys[k]:Int)) + u64.wrap ((fs[i + k]'(by omega):Nat):Int)) + (cy:Int))=(t:Int):=by
    clear hstep
    generalize xs[i] * ys[k]=pq at *
    rw [u64w (x:=(xs[i]:Int)) (by omega),u64w (x:=(ys[k]:Int)) (by omega),hxyc,u64w (x:=((pq:Nat):Int)) (by omega)]
    simp (disch:=omega) only [u64w]
    omega
   rw [e1,u32m,shr32]
   refine ⟨(_,_,_),?_,by (try dsimp only); and_intros <;> first | exact True.intro | rfl,?_⟩
   ·(try dsimp only); omega
   ·(try dsimp only)
    have hk2:((k:Int) + 1).toNat=k + 1:=by omega
    refine ⟨by omega,by omega,by omega,by omega,fs.set (i + k) (t % 4294967296),?_,by simpa using hfs,hdf.set _ _ (by omega),?_,?_⟩
    ·rw [← u32s_set]; simp
    ·rw [hk2,List.drop_set_of_lt (by omega)]
     have:=congrArg (List.drop 1) hdr
     simpa [List.drop_drop,Nat.add_comm,Nat.add_assoc,Nat.add_left_comm] using this
    ·rw [hk2,show i + (k + 1)=i + k + 1 from by omega,val_take_set _ _ _ (by omega),val_take_succ es (i + k) (by omega),val_take_succ ys k (by omega),← hef,Nat.pow_succ]
     have e2:((t:Int) / 4294967296).toNat=t / 4294967296:=by omega
     rw [e2,Nat.pow_add,hstep]
  ·have h4:k=m:=by simp at h4; omega
   subst h4
   simp (disch:=omega) only [i64w]
   have hik:((i:Int) + k).toNat=i + k:=by omega
   rw [hik]
   refine ⟨⟨by omega,by omega⟩,by simp; omega,(_,_),?_,by (try dsimp only); and_intros <;> first | exact True.intro | rfl,?_⟩
   ·(try dsimp only); omega
   ·(try dsimp only)
    have hi2:((i:Int) + 1).toNat=i + 1:=by omega
    refine ⟨by omega,by omega,fs.set (i + k) cy,?_,by simpa using hfs,hdf.set _ _ (by omega),?_⟩
    ·rw [← u32s_set,u32w (by omega)]; simp
    ·rw [hi2,show i + 1 + k=i + k + 1 from by omega,val_take_set _ _ _ (by omega),hw,hv,val_take_succ xs i (by omega),val_take_of_le (ds:=ys) (by omega)]
     grind
 ·have h3:i=n:=by simp at h3; omega
  subst h3
  intro V6 l6 bk hb'
  refine (c_num_Trim (RD.blk hb' hde (n:=i + m) (c:=i + m) (by omega) (Nat.le_refl _)) (by omega)).mono ?_
  rintro r V7 l7 ⟨k,rfl,h4⟩
  refine ⟨_,_,_,rfl,fun _ V8 l8=>⟨_,_,_,rfl,?_⟩⟩
  rw [trimD_eq hde] at h4
  rw [val_take_of_le (by omega),val_take_of_le (by omega)] at hv
  rw [hv] at h4
  exact h4.le l8
theorem c_num_word {V:View} {p:OA} {n c:Nat} {ds:List Nat} (h:RD V p n c ds) (hm:ds.length<=1099511627776) :
  Acts prog 245 #[.slice p n c] V fun r V'=>r=.tuple #[.int .u64 ((if n<=2 then val ds else 0:Nat):Int),.bool (decide (n<=2))]:=by
 have hl:=h.len
 refine vc_num_word p n c V _ ⟨fun h0 V1 l1=>?_,fun h0=>⟨fun h1=>?_,fun h1=>⟨fun h2=>?_,fun h2 V1 l1=>?_⟩⟩⟩
 ·have h0:n=0:=by simp at h0; omega
  subst h0
  have:ds=[]:=List.length_eq_zero_iff.1 (by omega)
  subst this
  rfl
 ·have h1:n=1:=by simp at h1; omega
  subst h1
  obtain ⟨a,rfl⟩:=one_of_len (ds:=ds) (by omega)
  have hd:=h.dig.get (i:=0) (by simp)
  refine rdOne h (by simp) fun V1 l1=>?_
  simp only [List.getElem_cons_zero] at hd ⊢
  have e1:u64.wrap (a:Int)=a:=u64w (by omega)
  rw [e1,if_pos (by omega),decide_eq_true (by omega)]
  simp
 ·have h2:n=2:=by simp at h2; omega
  subst h2
  obtain ⟨a,b,rfl⟩:=two_of_len (ds:=ds) (by omega)
  have hd0:=h.dig.get (i:=0) (by simp)
  have hd1:=h.dig.get (i:=1) (by simp)
  refine rdAt h 1 (by simp) ⟨by omega,rdOne h (by simp) fun V1 l1=>?_⟩
  simp only [List.getElem_cons_zero,List.getElem_cons_succ] at hd0 hd1 ⊢
  have e1:u64.wrap (a:Int)=a:=u64w (by omega)
  have e2:u64.wrap (b:Int)=b:=u64w (by omega)
  have e3:((2:Int) ^ 32)=4294967296:=by decide
  have e4:u64.wrap ((b:Int) * 4294967296)=(b:Int) * 4294967296:=u64w (by omega)
  rw [e1,e2,e3,e4,or64 _ _ hd1 hd0,if_pos (by omega),decide_eq_true (by omega)]
  simp only [val_cons,val_nil]
  congr 4
  omega
 ·have h2:¬ n<=2:=by simp at h0 h1 h2; omega
  rw [if_neg h2,decide_eq_false h2]
  rfl
end Go.Proofs.Tryz
/- Contracts of the reference's numbers: Left. -/
namespace Go.Proofs.Tryz
open Go.Eng Go.Big
theorem or_zero_l (b:Nat):0 ||| b=b:=Nat.zero_or b
theorem c_num_Left {V:View} {p:OA} {n c:Nat} {ds:List Nat} (hx:RD V p n c ds) (hm:ds.length<=1099511627776) (k:Nat) (hk:k<=35184372088832) :
  Acts prog 296 #[.slice p n c,.int .i64 (k:Int)] V fun r V'=>∃p' n' c',r=.slice p' n' c'/\RN V' p' n' c' (val ds * 2 ^ k):=by
 have hl:=hx.len
 have e2:(k:Int).tdiv 32=((k / 32:Nat):Int):=by rw [Int.tdiv_eq_ediv_of_nonneg (by omega)]; omega
 have e3:(k:Int).tmod 32=((k % 32:Nat):Int):=by rw [Int.tmod_eq_emod_of_nonneg (by omega)]; omega
 have vc:=vc_num_Left p n c k V
 have hk2:val ds * 2 ^ k=4294967296 ^ (k / 32) * val ds * 2 ^ (k % 32):=by
  have:2 ^ k=4294967296 ^ (k / 32) * 2 ^ (k % 32):=by
   rw [show (4294967296:Nat)=2 ^ 32 from rfl,← Nat.pow_mul,← Nat.pow_add,Nat.div_add_mod]
  rw [this]; grind
 rw [hk2]
 have hwl:k / 32<=1099511627776:=by omega
 have hrl:k % 32 < 32:=Nat.mod_lt _ (by omega)
 rw [e2,e3] at vc
 generalize k / 32=w at *
 generalize k % 32=r at *
 clear e2 e3 hk2
 have w1:i64.wrap (w:Int)=(w:Int):=i64w (by omega)
 have w2:i64.wrap ((w:Int) + n)=((w + n:Nat):Int):=by rw [i64w (by omega)]; omega
 have w3:i64.wrap (((w + n:Nat):Int) + 1)=((w + n + 1:Nat):Int):=by rw [i64w (by omega)]; omega
 have w4:u64.wrap (r:Int)=(r:Int):=u64w (by omega)
 have hmin:(min r IntKind.u64.bits)=r:=by
  show min _ 64=r
  omega
 have hp:((2:Int) ^ r)=((2 ^ r:Nat):Int):=by simp
 simp only [w1,w2,w3,w4,Int.toNat_natCast,hmin,hp,u32s_rep] at vc
 refine vc _ ⟨by omega,by omega,by omega,by omega,by omega,fun z V'=>0<=z.1/\z.1<=n/\∃es:List Nat,z.2=u32s es/\es.length=w + n + 1/\Dig es/\(∀c,es[z.1.toNat + w]?=some c->c < 2 ^ r)/\(∀j c,z.1.toNat + w < j->es[j]?=some c->c=0) /\
   val (es.take (z.1.toNat + w + 1))=4294967296 ^ w * val (ds.take z.1.toNat) * 2 ^ r,fun z=>n - z.1.toNat,
   ⟨(0,u32s (List.replicate (w + n + 1) 0)),by (try dsimp only); and_intros <;> first | exact True.intro | rfl,by (try dsimp only); omega,by (try dsimp only); omega,_,rfl,by simp,Dig.rep _,?_,?_,?_⟩,?_⟩
 ·intro c hc
  rw [List.getElem?_replicate] at hc
  split at hc
  ·cases hc; exact Nat.two_pow_pos r
  ·cases hc
 ·intro j c _ hc
  rw [List.getElem?_replicate] at hc
  split at hc
  ·cases hc; rfl
  ·cases hc
 ·simp [List.take_replicate,val_rep]
 rintro ⟨i,vs⟩ V4 l4 ⟨hi0,hi1,es,rfl,hes,hde,hc,hz,hv⟩
 dsimp only at hi0 hi1 hc hz hv ⊢
 obtain ⟨i,rfl⟩:=Int.eq_ofNat_of_zero_le hi0
 simp only [Int.toNat_natCast] at hc hz hv
 refine ⟨by trivial,fun h3=>?_,fun h3=>?_⟩
 ·have h3:i < n:=by simpa using h3
  have x1:i64.wrap ((w:Int) + i)=((i + w:Nat):Int):=by rw [i64w (by omega)]; omega
  have x2:i64.wrap (((i + w:Nat):Int) + 1)=((i + w + 1:Nat):Int):=by rw [i64w (by omega)]; omega
  have x3:i64.wrap ((i:Int) + 1)=((i + 1:Nat):Int):=by rw [i64w (by omega)]; omega
  simp only [x1,x2,x3,Int.toNat_natCast,Nat.mul_one,Nat.zero_add]
  refine rdAt (hx.le l4) i (by omega) ?_
  have hdx:=hx.dig.get (i:=i) (by omega)
  have hce:=hc (es[i + w]'(by omega)) (List.getElem?_eq_getElem _)
  have hze:=hz (i + w + 1) (es[i + w + 1]'(by omega)) (by omega) (List.getElem?_eq_getElem _)
  obtain ⟨g1,g2,g3,g4⟩:=shl_step hdx hrl hce
  have hmul:((ds[i]:Nat):Int) * ((2 ^ r:Nat):Int)=((ds[i] * 2 ^ r:Nat):Int):=by simp
  have x4:u64.wrap ((ds[i]:Nat):Int)=((ds[i]:Nat):Int):=u64w (by omega)
  have x5:u64.wrap ((ds[i] * 2 ^ r:Nat):Int)=((ds[i] * 2 ^ r:Nat):Int):=u64w (by omega)
  have ec:u32.wrap ((ds[i] * 2 ^ r:Nat):Int)=((ds[i] * 2 ^ r % 4294967296:Nat):Int):=by rw [u32m]; omega
  have ed:u32.wrap (((ds[i] * 2 ^ r:Nat):Int).fdiv (2 ^ 32))=((ds[i] * 2 ^ r / 4294967296:Nat):Int):=by rw [shr32,u32m]; omega
  simp only [x4,hmul,x5,ec,ed]
  have hd2:ds[i] * 2 ^ r / 4294967296 < 4294967296:=by omega
  have hdm:=Nat.mod_add_div (ds[i] * 2 ^ r) 4294967296
  have hdr:val (List.take (i + 1) ds)=val (List.take i ds) + 4294967296 ^ i * ds[i]:=val_take_succ _ _ (by omega)
  have hes1:val (es.take (i + w + 1))=val (es.take (i + w)) + 4294967296 ^ (i + w) * es[i + w]'(by omega):=val_take_succ _ _ (by omega)
  have hlo:ds[i] * 2 ^ r % 4294967296 < 4294967296:=Nat.mod_lt _ (by omega)
  generalize ds[i] * 2 ^ r % 4294967296=lo at *
  generalize ds[i] * 2 ^ r / 4294967296=hi at *
  refine ⟨by omega,by omega,⟨by omega,by omega⟩,((es[i + w]'(by omega):Nat):Int),u32s_get (by omega),⟨by omega,by omega⟩,by simp; omega,by omega,⟨by omega,by omega⟩,((es[i + w + 1]'(by omega):Nat):Int),?_,by omega,⟨by omega,by omega⟩,by simp; omega,?_⟩
  ·rw [List.getElem?_set_ne (by omega)]; exact u32s_get (by omega)
  have hce32:es[i + w]'(by omega) < 4294967296:=hde.get (by omega)
  rw [or_u32 _ _ hce32 hlo,g1,hze,or_u32 _ _ (by omega) hd2,or_zero_l]
  refine ⟨(((i + 1:Nat):Int),u32s ((es.set (i + w) (es[i + w]'(by omega) + lo)).set (i + w + 1) hi)),?_,?_,?_⟩
  ·(try dsimp only); omega
  ·(try dsimp only); and_intros <;> first | exact True.intro | rfl | rw [← u32s_set,← u32s_set]
  ·(try dsimp only)
   refine ⟨by omega,by omega,_,rfl,by simpa using hes,(hde.set _ _ (by omega)).set _ _ (by omega),?_,?_,?_⟩
   ·intro c hc'
    simp only [Int.toNat_natCast] at hc'
    rw [show i + 1 + w=i + w + 1 from by omega,List.getElem?_set_self (by simp; omega)] at hc'
    cases hc'; exact g3
   ·intro j c hj hc'
    simp only [Int.toNat_natCast] at hj
    rw [List.getElem?_set_ne (by omega),List.getElem?_set_ne (by omega)] at hc'
    exact hz j c (by omega) hc'
   ·simp only [Int.toNat_natCast]
    rw [show i + 1 + w + 1=i + w + 1 + 1 from by omega,val_take_set _ _ _ (by simp; omega),val_take_set _ _ _ (by omega),hdr]
    rw [hes1] at hv
    have hA:4294967296 ^ (i + w + 1) * hi=4294967296 ^ (i + w) * (4294967296 * hi):=by rw [Nat.pow_succ]; grind
    rw [hA,Nat.mul_add,← Nat.add_assoc,hv,Nat.add_assoc,← Nat.mul_add,hdm,Nat.pow_add]
    grind
 ·have h3:i=n:=by simp at h3; omega
  subst h3
  intro V5 l5 bk hb
  refine (c_num_Trim (RD.blk hb hde (n:=w + i + 1) (c:=w + i + 1) (by omega) (Nat.le_refl _)) (by omega)).mono ?_
  rintro r' V6 l6 ⟨k',rfl,h4⟩
  refine ⟨_,_,_,rfl,fun _ V7 l7=>⟨_,_,_,rfl,?_⟩⟩
  rw [val_take_of_le (by omega),val_take_of_le (by omega)] at hv
  rw [trimD_eq hde,hv] at h4
  exact h4.le l7
end Go.Proofs.Tryz
/- Contracts of the reference's numbers: Right. -/
namespace Go.Proofs.Tryz
open Go.Eng Go.Big
theorem Addr_add_add (a:Addr) (m n:Nat):(a.add m).add n=a.add (m + n):=by
 unfold Addr.add
 by_cases h1:m=0
 ·subst h1; simp
 ·by_cases h2:n=0
  ·subst h2; simp [h1]
  ·rw [if_neg h1,if_neg h2,if_neg (by omega)]
   simp only [Nat.add_assoc]
theorem RDdrop {V:View} {p:OA} {n c:Nat} {ds:List Nat} (h:RD V p n c ds) {k:Nat} (hk:k < n):RD V (slA p c k 1) (n - k) (c - k) (ds.drop k):=by
 have hl:=h.len
 have hc:=h.cap
 have e:slA p c k 1=addrAdd p k:=by unfold slA; rw [if_neg (by omega),Nat.mul_one]
 rw [e]
 refine ⟨by simp; omega,by omega,fun i v hv=>?_,h.dig.drop k,fun hp=>?_⟩
 ·rw [u32s_drop,List.getElem?_drop] at hv
  obtain ⟨ad,e1,hat⟩:=h.sl _ _ hv
  refine ⟨ad.add k,by rw [e1]; rfl,?_⟩
  rw [Addr_add_add]; exact hat
 ·have:p.isNone=true:=by cases p <;> simp_all [addrAdd]
  have:=h.nilc this
  omega
theorem c_num_Right {V:View} {p:OA} {n c:Nat} {ds:List Nat} (hd:RD V p n c ds) (hm:ds.length<=1099511627776) (k:Nat) (hk:k<=35184372088832) :
  Acts prog 297 #[.slice p n c,.int .i64 (k:Int)] V fun r V'=>∃p' n' c',r=.slice p' n' c'/\RN V' p' n' c' (val ds / 2 ^ k):=by
 have hl:=hd.len
 have e2:(k:Int).tdiv 32=((k / 32:Nat):Int):=by rw [Int.tdiv_eq_ediv_of_nonneg (by omega)]; omega
 have e3:(k:Int).tmod 32=((k % 32:Nat):Int):=by rw [Int.tmod_eq_emod_of_nonneg (by omega)]; omega
 have vc:=vc_num_Right p n c k V
 have hk2:val ds / 2 ^ k=val ds / 4294967296 ^ (k / 32) / 2 ^ (k % 32):=by
  rw [Nat.div_div_eq_div_mul,show (4294967296:Nat)=2 ^ 32 from rfl,← Nat.pow_mul,← Nat.pow_add,Nat.div_add_mod]
 rw [hk2]
 have hwl:k / 32<=1099511627776:=by omega
 have hrl:k % 32 < 32:=Nat.mod_lt _ (by omega)
 rw [e2,e3] at vc
 generalize k / 32=w at *
 generalize k % 32=r at *
 clear e2 e3 hk2
 have w1:i64.wrap (w:Int)=(w:Int):=i64w (by omega)
 have w4:u64.wrap (r:Int)=(r:Int):=u64w (by omega)
 have hmin:(min r IntKind.u64.bits)=r:=by
  show min _ 64=r
  omega
 simp only [w1,w4,Int.toNat_natCast,hmin,u32s_rep] at vc
 refine vc _ ⟨by omega,fun h0 V1 l1=>?_,fun h0=>?_⟩
 ·have h0:n<=w:=by simp at h0; omega
  have hlt:=val_lt hd.dig
  have:4294967296 ^ ds.length<=4294967296 ^ w:=Nat.pow_le_pow_right (by omega) (by omega)
  rw [Nat.div_eq_of_lt (Nat.lt_of_lt_of_le hlt this),Nat.zero_div]
  exact ⟨_,_,_,rfl,RD.nil⟩
 ·have h0:w < n:=by simp at h0; omega
  clear vc
  have hxw:val ds / 4294967296 ^ w=val (ds.drop w):=by
   have e:val ds=val (ds.take w++ds.drop w):=by rw [List.take_append_drop]
   have hlt:=val_lt (hd.dig.take w)
   rw [val_append] at e
   rw [List.length_take,Nat.min_eq_left (by omega)] at e hlt
   rw [e,Nat.add_mul_div_left _ _ (Nat.pow_pos (by omega)),Nat.div_eq_of_lt hlt,Nat.zero_add]
  rw [hxw]
  have hx:=RDdrop hd h0
  have hlx:=hx.len
  clear hxw
  generalize slA p c w 1=sp at *
  generalize ds.drop w=xs at *
  generalize hN:n - w=N at *
  refine ⟨by omega,by omega,⟨by omega,by omega⟩,by omega,by omega,by omega,fun z V'=>0<=z.1/\z.1<=N/\∃es:List Nat,z.2=u32s es/\es.length=N/\Dig es /\
   val (es.take z.1.toNat) + 4294967296 ^ z.1.toNat * (val (xs.drop z.1.toNat) / 2 ^ r)=val xs / 2 ^ r,fun z=>N - z.1.toNat,
   ⟨(0,u32s (List.replicate N 0)),by (try dsimp only); and_intros <;> first | exact True.intro | rfl,by (try dsimp only); omega,by (try dsimp only); omega,_,rfl,by simp,Dig.rep _,by simp⟩,?_⟩
  rintro ⟨i,vs⟩ V4 l4 ⟨hi0,hi1,es,rfl,hes,hde,hv⟩
  dsimp only at hi0 hi1 hv ⊢
  obtain ⟨i,rfl⟩:=Int.eq_ofNat_of_zero_le hi0
  simp only [Int.toNat_natCast] at hv
  refine ⟨by trivial,fun h3=>?_,fun h3=>?_⟩
  ·have h3:i < N:=by simpa using h3
   have x3:i64.wrap ((i:Int) + 1)=((i + 1:Nat):Int):=by rw [i64w (by omega)]; omega
   simp only [x3,Int.toNat_natCast,Nat.mul_one,Nat.zero_add]
   refine rdAt (hx.le l4) i (by omega) ?_
   have hdx:=hx.dig.get (i:=i) (by omega)
   refine ⟨fun z V'=>z=((xs[i] + 4294967296 * (xs[i + 1]?).getD 0:Nat):Int),⟨fun h4=>?_,fun h4=>?_⟩,?_⟩
   ·have h4:i + 1 < N:=by simp at h4; omega
    have hdy:=hx.dig.get (i:=i + 1) (by omega)
    have e4:bitI .or .u64 (u64.wrap ((xs[i]:Nat):Int)) (u64.wrap (u64.wrap ((xs[i + 1]:Nat):Int) * 2 ^ 32))=((xs[i] + 4294967296 * (xs[i + 1]?).getD 0:Nat):Int):=by
     have e3:((2:Int) ^ 32)=4294967296:=by decide
     rw [e3,u64w (by omega),u64w (x:=((xs[i + 1]:Nat):Int)) (by omega),u64w (by omega),or64' _ _ hdy hdx,List.getElem?_eq_getElem (by omega),Option.getD_some]
     omega
    refine rdAt (hx.le l4) (i + 1) (by omega) ⟨by omega,((xs[i] + 4294967296 * (xs[i + 1]?).getD 0:Nat):Int),?_,rfl⟩
    (try dsimp only); and_intros <;> first | exact True.intro | exact e4 | rfl
   ·have h4:N<=i + 1:=by simp at h4; omega
    have e4:u64.wrap ((xs[i]:Nat):Int)=((xs[i] + 4294967296 * (xs[i + 1]?).getD 0:Nat):Int):=by
     rw [u64w (by omega),List.getElem?_eq_none (by omega)]; simp
    refine ⟨((xs[i] + 4294967296 * (xs[i + 1]?).getD 0:Nat):Int),?_,rfl⟩
    (try dsimp only); and_intros <;> first | exact True.intro | exact e4 | rfl
   rintro _ V5 l5 rfl
   have hst:=shr_step (Y:=val (xs.drop (i + 1))) hdx hrl
   rw [val_drop_mod hx.dig] at hst
   have hdrop:val (xs.drop i)=xs[i] + 4294967296 * val (xs.drop (i + 1)):=by
    rw [List.drop_eq_getElem_cons (by omega),val_cons]
   rw [hdrop,hst] at hv
   rw [fdiv_nat,u32m]
   obtain ⟨D,hD⟩:∃D,D=(xs[i] + 4294967296 * (xs[i + 1]?).getD 0) / 2 ^ r % 4294967296:=⟨_,rfl⟩
   have eD:(((xs[i] + 4294967296 * (xs[i + 1]?).getD 0) / 2 ^ r:Nat):Int) % 4294967296=(D:Int):=by rw [hD]; omega
   rw [eD]
   rw [← hD] at hv
   refine ⟨by trivial,by omega,⟨by omega,by omega⟩,by simp; omega,(((i + 1:Nat):Int),u32s (es.set i D)),?_,?_,?_⟩
   ·(try dsimp only); omega
   ·(try dsimp only); and_intros <;> first | exact True.intro | rfl | rw [← u32s_set]
   ·(try dsimp only)
    refine ⟨by omega,by omega,_,rfl,by simpa using hes,hde.set _ _ (by omega),?_⟩
    simp only [Int.toNat_natCast]
    rw [val_take_set _ _ _ (by omega),← hv,Nat.pow_succ,Nat.mul_add,Nat.add_assoc,Nat.mul_assoc]
  ·have h3:i=N:=by simp at h3; omega
   subst h3
   intro V5 l5 bk hb
   refine (c_num_Trim (RD.blk hb hde (n:=i) (c:=i) (by omega) (Nat.le_refl _)) (by omega)).mono ?_
   rintro r' V6 l6 ⟨k',rfl,h4⟩
   refine ⟨_,_,_,rfl,fun _ V7 l7=>⟨_,_,_,rfl,?_⟩⟩
   rw [val_take_of_le (by omega),List.drop_of_length_le (l:=xs) (i:=i) (by omega)] at hv
   have hv:val es=val xs / 2 ^ r:=by
    rw [← hv,val_nil,Nat.zero_div,Nat.mul_zero,Nat.add_zero]
   rw [trimD_eq hde,hv] at h4
   exact h4.le l7
end Go.Proofs.Tryz
/- Plain laws for the reference's long division. -/
namespace Go.Big
theorem val_div_pow {ds:List Nat} (hd:Dig ds) (w:Nat) (hw:w<=ds.length):val ds / 4294967296 ^ w=val (ds.drop w):=by
 have e:val ds=val (ds.take w++ds.drop w):=by rw [List.take_append_drop]
 have hlt:=val_lt (hd.take w)
 rw [val_append] at e
 rw [List.length_take,Nat.min_eq_left (by omega)] at e hlt
 rw [e,Nat.add_mul_div_left _ _ (Nat.pow_pos (by omega)),Nat.div_eq_of_lt hlt,Nat.zero_add]
theorem lead2 {R n:Nat} (h:(digs R).length=n + 2):R / 4294967296 ^ n=(digs R)[n + 1]'(by omega) * 4294967296 + (digs R)[n]'(by omega):=by
 have:=val_div_pow (dig_digs R) n (by omega)
 rw [val_digs] at this
 rw [this,List.drop_eq_getElem_cons (by omega),List.drop_eq_getElem_cons (i:=n + 1) (by omega),List.drop_of_length_le (by omega)]
 simp only [val_cons,val_nil]
 omega
theorem lead1 {R n:Nat} (h:(digs R).length=n + 1):R / 4294967296 ^ n=(digs R)[n]'(by omega):=by
 have:=val_div_pow (dig_digs R) n (by omega)
 rw [val_digs] at this
 rw [this,List.drop_eq_getElem_cons (by omega),List.drop_of_length_le (by omega)]
 simp only [val_cons,val_nil]
 omega
theorem lead0 {R n:Nat} (h:(digs R).length<=n):R / 4294967296 ^ n=0:=Nat.div_eq_of_lt (digs_len_le.1 h)
theorem top_mul_le {V n:Nat} (h:(digs V).length=n + 1):(digs V)[n]'(by omega) * 4294967296 ^ n<=V:=by
 have:=lead1 h
 rw [← this]
 exact Nat.div_mul_le_self _ _
theorem guess_ge {R V top P W:Nat} (hV:top * P<=V) (ht:0 < top) (hP:0 < P) (hW:0 < W):R / (V * W)<=R / (P * W) / top:=by
 rw [Nat.le_div_iff_mul_le ht,Nat.le_div_iff_mul_le (Nat.mul_pos hP hW)]
 have h1:R / (V * W) * (V * W)<=R:=Nat.div_mul_le_self _ _
 have h2:R / (V * W) * (top * P * W)<=R / (V * W) * (V * W):=Nat.mul_le_mul_left _ (Nat.mul_le_mul_right _ hV)
 have h3:R / (V * W) * top * (P * W)=R / (V * W) * (top * P * W):=by
  generalize R / (V * W)=q
  rw [Nat.mul_assoc q top,← Nat.mul_assoc top P W]
 omega
theorem long_keep {A V W D R q R':Nat} (h:A=V * (W * 4294967296 * D) + R) (hq:R=V * q * W + R'):A=V * (W * (q + 4294967296 * D)) + R':=by
 subst hq; rw [h]; grind
theorem long_end {x y s Q R:Nat} (h:x * 2 ^ s=y * 2 ^ s * Q + R) (hR:R < y * 2 ^ s):Q=x / y/\R / 2 ^ s=x % y:=by
 have hp:=Nat.two_pow_pos s
 have hy:0 < y:=by
  rcases Nat.eq_zero_or_pos y with e | e
  ·subst e; simp at hR
  ·exact e
 have h1:y * 2 ^ s * Q=(y * Q) * 2 ^ s:=by grind
 rw [h1] at h
 have h2:y * Q<=x:=by
  rcases Nat.lt_or_ge x (y * Q) with hl | hl
  ·have:(x + 1) * 2 ^ s<=y * Q * 2 ^ s:=Nat.mul_le_mul_right _ hl
   rw [Nat.add_mul] at this
   omega
  ·exact hl
 obtain ⟨d,rfl⟩:=Nat.exists_eq_add_of_le h2
 rw [Nat.add_mul] at h
 have h3:R=d * 2 ^ s:=by omega
 subst h3
 have h4:d < y:=Nat.lt_of_mul_lt_mul_right hR
 rw [Nat.mul_div_cancel _ hp]
 constructor
 ·rw [Nat.mul_add_div hy,Nat.div_eq_of_lt h4,Nat.add_zero]
 ·rw [Nat.mul_add_mod,Nat.mod_eq_of_lt h4]
theorem pow32 (j:Nat):2 ^ (32 * j)=4294967296 ^ j:=by rw [Nat.pow_mul]
theorem guess_stop {R V W g:Nat} (hVW:0 < V * W) (h:V * g * W<=R) (hq:R / (V * W)<=g):g=R / (V * W):=by
 have:g<=R / (V * W):=by
  rw [Nat.le_div_iff_mul_le hVW]
  have:g * (V * W)=V * g * W:=by grind
  omega
 omega
theorem guess_go {R V W g:Nat} (hVW:0 < V * W) (h:R < V * g * W):R / (V * W) < g:=by
 rw [Nat.div_lt_iff_lt_mul hVW]
 have:g * (V * W)=V * g * W:=by grind
 omega
theorem rest_split {R V W:Nat}:R=V * (R / (V * W)) * W + R % (V * W):=by
 have:=Nat.div_add_mod R (V * W)
 have e:V * (R / (V * W)) * W=V * W * (R / (V * W)):=by
  generalize R / (V * W)=q
  grind
 omega
theorem digs_mul_len {a b:Nat}:(digs (a * b)).length<=(digs a).length + (digs b).length:=by
 rw [digs_len_le,Nat.pow_add]
 have h1:a < 4294967296 ^ (digs a).length:=digs_len_le.1 (Nat.le_refl _)
 have h2:b < 4294967296 ^ (digs b).length:=digs_len_le.1 (Nat.le_refl _)
 exact Nat.mul_lt_mul'' h1 h2
theorem digs_pow_len (j:Nat):(digs (4294967296 ^ j)).length<=j + 1:=by
 rw [digs_len_le]
 exact Nat.pow_lt_pow_right (by omega) (by omega)
end Go.Big
/- Contracts of the reference's numbers: long. -/
namespace Go.Proofs.Tryz
open Go.Eng Go.Big
theorem rdG {V:View} {p:OA} {n c:Nat} {ds:List Nat} (h:RD V p n c ds) {i:Int} {K:Int->Prop} (j d:Nat) (hj:i=j) (hn:ds[j]?=some d)
  (hK:K (d:Int)):(p.isSome=true)/\(0<=i/\i < (n:Int))/\∃x:Int,(∃a,addrAdd p (i.toNat * 1)=some a/\V.at a (.int .u32 x))/\K x:=by
 have hl:j < ds.length:=by
  rcases Nat.lt_or_ge j ds.length with h | h
  ·exact h
  ·rw [List.getElem?_eq_none h] at hn; cases hn
 refine h.rd j hj hl ?_
 rw [List.getElem?_eq_getElem hl] at hn
 cases hn; exact hK
theorem top_facts {W n:Nat} (h:(digs W).length=n + 1):∃top,(digs W)[n]?=some top/\top≠0/\top < 4294967296/\top * 4294967296 ^ n<=W:=by
 refine ⟨(digs W)[n]'(by omega),List.getElem?_eq_getElem _,?_,(dig_digs W).get _,top_mul_le h⟩
 have:=(nrm_digs W).last (by omega)
 simpa [h] using this
/-- What the outer loop keeps. -/
structure LongI (A V L:Nat) (R:Nat) (j:Nat) (es:List Nat):Prop where
 len:es.length=L
 dig:Dig es
 lt:R < V * 4294967296 ^ j
 eq:A=V * (4294967296 ^ j * val (es.drop j)) + R
theorem LongI.step {A V L R j:Nat} {es:List Nat} (h:LongI A V L R (j + 1) es) (hj:j < L) (hV:0 < V) :
  R / (V * 4294967296 ^ j) < 4294967296/\LongI A V L (R - V * (R / (V * 4294967296 ^ j)) * 4294967296 ^ j) j (es.set j (R / (V * 4294967296 ^ j))):=by
 have hW:0 < 4294967296 ^ j:=Nat.pow_pos (by omega)
 have hVW:0 < V * 4294967296 ^ j:=Nat.mul_pos hV hW
 have hq:R / (V * 4294967296 ^ j) < 4294967296:=by
  rw [Nat.div_lt_iff_lt_mul hVW]
  have:=h.lt
  rw [Nat.pow_succ] at this
  have e:4294967296 * (V * 4294967296 ^ j)=V * (4294967296 ^ j * 4294967296):=by
   generalize 4294967296 ^ j=w
   grind
  omega
 have hs:=rest_split (R:=R) (V:=V) (W:=4294967296 ^ j)
 have hm:=Nat.mod_lt R hVW
 have he:R - V * (R / (V * 4294967296 ^ j)) * 4294967296 ^ j=R % (V * 4294967296 ^ j):=by omega
 refine ⟨hq,⟨by simpa using h.len,h.dig.set _ _ hq,by rw [he]; exact hm,?_⟩⟩
 have hl:=h.len
 rw [List.drop_eq_getElem_cons (by simp; omega),List.getElem_set_self,List.drop_set_of_lt (by omega),val_cons,he]
 exact long_keep (by have:=h.eq; rwa [Nat.pow_succ] at this) hs
/-- The rest's digits, and the leading word. -/
theorem rest_len {R V j:Nat} (h:R < V * 4294967296 ^ (j + 1)):(digs R).length<=(digs V).length + j + 1:=by
 have h1:V * 4294967296 ^ (j + 1)<=4294967296 ^ (digs V).length * 4294967296 ^ (j + 1):=Nat.mul_le_mul_right _ (Nat.le_of_lt (digs_len_le.1 (Nat.le_refl _)))
 rw [← Nat.pow_add] at h1
 have:=digs_len_le.2 (Nat.lt_of_lt_of_le h h1)
 omega
theorem lead_lt {R n:Nat} (h:(digs R).length<=n + 2):R / 4294967296 ^ n < 18446744073709551616:=by
 rw [Nat.div_lt_iff_lt_mul (Nat.pow_pos (by omega))]
 have:=digs_len_le.1 h
 rw [Nat.pow_succ,Nat.pow_succ] at this
 have e:4294967296 ^ n * 4294967296 * 4294967296=18446744073709551616 * 4294967296 ^ n:=by
  generalize 4294967296 ^ n=w
  omega
 omega
theorem c_num_long {V:View} {p q:OA} {n c m e:Nat} {x y:Nat} (hx:RN V p n c x) (hy:RN V q m e y) (hm:(digs x).length<=274877906944) (hy0:0 < y) (hle:(digs y).length<=(digs x).length) :
  Acts prog 247 #[.slice p n c,.slice q m e] V fun r V'=>∃p1 n1 c1 p2 n2 c2,r=.tuple #[.slice p1 n1 c1,.slice p2 n2 c2]/\RN V' p1 n1 c1 (x / y)/\RN V' p2 n2 c2 (x % y):=by
 have hlx:=hx.len
 have hly:=hy.len
 have hm0:0 < m:=by
  rcases Nat.eq_zero_or_pos m with h | h
  ·have:=digs_eq_nil.1 (List.length_eq_zero_iff.1 (hly ▸ h)); omega
  ·exact h
 have vc:=vc_num_long p n c q m e V
 have w1:i64.wrap ((m:Int) - 1)=((m - 1:Nat):Int):=by rw [i64w (by omega)]; omega
 have w2:i64.wrap ((n:Int) - m)=((n - m:Nat):Int):=by rw [i64w (by omega)]; omega
 have w3:i64.wrap (((n - m:Nat):Int) + 1)=((n - m + 1:Nat):Int):=by rw [i64w (by omega)]; omega
 have w4:i64.wrap (((n - m + 1:Nat):Int) - 1)=((n - m:Nat):Int):=by rw [i64w (by omega)]; omega
 simp only [w1,w2,w3,Int.toNat_natCast,w4,u32s_rep] at vc
 obtain ⟨L,hL⟩:∃L,L=n - m + 1:=⟨_,rfl⟩
 rw [← hL] at vc
 refine vc _ ?_
 clear vc
 refine hy.rd (m - 1) rfl (by omega) fun V1 l1=>(c_LeadingZeros32 _ ((dig_digs y).get (by omega))).mono ?_
 rintro r V2 l2 rfl
 have hbl:blen ((digs y)[m - 1]'(by omega))<=32:=blen_le.2 (by have:=(dig_digs y).get (i:=m - 1) (by omega); omega)
 obtain ⟨s,hs⟩:∃s:Nat,(32:Int) - (blen ((digs y)[m - 1]'(by omega)):Int)=s:=⟨32 - blen ((digs y)[m - 1]'(by omega)),by omega⟩
 have hs32:s<=32:=by omega
 rw [hs]
 clear hs hbl
 refine ⟨_,rfl,fun V3 l3=>(c_num_Left (hy.le (l1.trans (l2.trans l3))) (by omega) s (by omega)).mono ?_⟩
 rintro r V4 l4 ⟨vp,vn,vc,rfl,hv⟩
 rw [val_digs] at hv
 refine ⟨_,_,_,rfl,fun V5 l5=>(c_num_Left (hx.le (l1.trans (l2.trans (l3.trans (l4.trans l5))))) (by omega) s (by omega)).mono ?_⟩
 rintro r V6 l6 ⟨rp,rn,rc,rfl,hr⟩
 rw [val_digs] at hr
 replace hv:=hv.le (l5.trans l6)
 have hlv:=hv.len
 have hsp:=Nat.two_pow_pos s
 have hs2:2 ^ s<=4294967296:=Nat.pow_le_pow_right (n:=2) (by omega) hs32
 have hV0:0 < y * 2 ^ s:=Nat.mul_pos hy0 hsp
 have hsl:(digs (2 ^ s)).length<=2:=digs_len_le.2 (by omega)
 have hvl:vn<=m + 2:=by have:=digs_mul_len (a:=y) (b:=2 ^ s); omega
 have hvn:0 < vn:=by
  rcases Nat.eq_zero_or_pos vn with h | h
  ·have:=digs_eq_nil.1 (List.length_eq_zero_iff.1 (hlv ▸ h)); omega
  ·exact h
 have hinit:LongI (x * 2 ^ s) (y * 2 ^ s) L (x * 2 ^ s) L (List.replicate L 0):=by
  refine ⟨by simp,Dig.rep _,?_,by simp⟩
  have h1:x < 4294967296 ^ n:=by rw [hlx]; exact digs_len_le.1 (Nat.le_refl _)
  have h2:4294967296 ^ (m - 1)<=y:=by rw [← digs_len_lt]; omega
  have h3:4294967296 ^ (m - 1) * 4294967296 ^ L<=y * 4294967296 ^ L:=Nat.mul_le_mul_right _ h2
  rw [← Nat.pow_add,show m - 1 + L=n from by omega] at h3
  have h4:x * 2 ^ s < y * 4294967296 ^ L * 2 ^ s:=Nat.mul_lt_mul_of_pos_right (by omega) hsp
  have h5:y * 4294967296 ^ L * 2 ^ s=y * 2 ^ s * 4294967296 ^ L:=by
   generalize 4294967296 ^ L=w
   grind
  omega
 have hend:∀{Q R:Nat},x * 2 ^ s=y * 2 ^ s * Q + R->R < y * 2 ^ s->Q=x / y/\R / 2 ^ s=x % y:=fun h1 h2=>long_end h1 h2
 generalize x * 2 ^ s=A at *
 generalize y * 2 ^ s=W at *
 have w5:i64.wrap ((vn:Int) - 1)=((vn - 1:Nat):Int):=by rw [i64w (by omega)]; omega
 simp only [w5,Int.toNat_natCast]
 refine ⟨_,_,_,rfl,?_⟩
 obtain ⟨top,htg,htop0,htopl,htopV⟩:=top_facts (W:=W) (n:=vn - 1) (by omega)
 refine rdG hv (vn - 1) top rfl htg ?_
 have w6:u64.wrap (top:Int)=top:=u64w (by omega)
 simp only [w6]
 refine ⟨by omega,by omega,by omega,fun z V'=>∃R:Nat,RN V' z.1 z.2.1 z.2.2.1 R/\-1<=z.2.2.2.1/\z.2.2.2.1 < L/\∃es:List Nat,z.2.2.2.2=u32s es/\LongI A W L R (z.2.2.2.1 + 1).toNat es,fun z=>(z.2.2.2.1 + 1).toNat,
  ⟨(rp,rn,rc,((n - m:Nat):Int),u32s (List.replicate L 0)),by (try dsimp only); and_intros <;> first | exact True.intro | rfl,A,hr,by (try dsimp only); omega,by (try dsimp only); omega,_,rfl,?_⟩,?_⟩
 ·(try dsimp only)
  rw [show (((n - m:Nat):Int) + 1).toNat=L from by omega]
  exact hinit
 rintro ⟨rp,rn,rc,j,vs⟩ V7 l7 ⟨R,hR,hj0,hj1,es,rfl,hI⟩
 dsimp only at hR hj0 hj1 hI ⊢
 have hlr:=hR.len
 refine ⟨by trivial,fun h3=>?_,fun h3=>?_⟩
 ·have h3:0<=j:=by simpa using h3
  obtain ⟨j,rfl⟩:=Int.eq_ofNat_of_zero_le h3
  have hI:LongI A W L R (j + 1) es:=hI
  have hjL:j < L:=by omega
  have hrl:=rest_len hI.lt
  obtain ⟨hq,hI'⟩:=hI.step hjL hV0
  have w7:i64.wrap ((vn:Int) + j)=((vn - 1 + j + 1:Nat):Int):=by rw [i64w (by omega)]; omega
  have w8:i64.wrap (((vn - 1 + j + 1:Nat):Int) - 1)=((vn - 1 + j:Nat):Int):=by rw [i64w (by omega)]; omega
  have w9:i64.wrap ((32:Int) * j)=((32 * j:Nat):Int):=by rw [i64w (by omega)]; omega
  have w10:i64.wrap ((j:Int) - 1)=(j:Int) - 1:=i64w (by omega)
  simp only [w7,w8,w9,w10,Int.toNat_natCast]
  have hrl:(digs R).length<=vn - 1 + j + 2:=by omega
  have hld:=lead_lt hrl
  have hP:0 < 4294967296 ^ (vn - 1):=Nat.pow_pos (by omega)
  have hW:0 < 4294967296 ^ j:=Nat.pow_pos (by omega)
  have hg:=guess_ge (R:=R) htopV (by omega) hP hW
  rw [← Nat.pow_add] at hg
  have l2:=@lead2 R (vn - 1 + j)
  have l1:=@lead1 R (vn - 1 + j)
  have l0:=@lead0 R (vn - 1 + j)
  have hlast:∀i (hi:i < (digs R).length),(digs R)[i] < 4294967296:=fun i hi=>(dig_digs R).get hi
  generalize R / 4294967296 ^ (vn - 1 + j)=lead at *
  refine ⟨fun z V'=>z=(lead:Int),⟨fun h4=>?_,fun h4=>?_⟩,?_⟩
  ·have h4:vn - 1 + j + 1 < rn:=by simp at h4; omega
   refine (hR.rd (vn - 1 + j + 1) rfl (by omega) ⟨by omega,hR.rd (vn - 1 + j) rfl (by omega) ⟨(lead:Int),?_,rfl⟩⟩)
   have e4:bitI .or .u64 (u64.wrap (u64.wrap (((digs R)[vn - 1 + j + 1]'(by omega):Nat):Int) * 2 ^ 32)) (u64.wrap (((digs R)[vn - 1 + j]'(by omega):Nat):Int))=(lead:Int):=by
    have e3:((2:Int) ^ 32)=4294967296:=by decide
    have g1:=hlast (vn - 1 + j + 1) (by omega)
    have g2:=hlast (vn - 1 + j) (by omega)
    have:=l2 (by omega)
    rw [e3,u64w (x:=(((digs R)[vn - 1 + j + 1]'(by omega):Nat):Int)) (by omega),u64w (x:=(((digs R)[vn - 1 + j]'(by omega):Nat):Int)) (by omega),u64w (by omega),or64 _ _ g1 g2,this]
    omega
   (try dsimp only); and_intros <;> first | exact True.intro | exact e4 | rfl
  ·have h4:rn<=vn - 1 + j + 1:=by simp at h4; omega
   refine ⟨fun z V'=>z=(lead:Int),⟨fun h5=>?_,fun h5=>?_⟩,?_⟩
   ·have h5:vn - 1 + j < rn:=by simp at h5; omega
    refine hR.rd (vn - 1 + j) rfl (by omega) ⟨(lead:Int),?_,rfl⟩
    have e4:u64.wrap (((digs R)[vn - 1 + j]'(by omega):Nat):Int)=(lead:Int):=by
     have g2:=hlast (vn - 1 + j) (by omega)
     rw [u64w (by omega),l1 (by omega)]
    (try dsimp only); and_intros <;> first | exact True.intro | exact e4 | rfl
   ·have h5:rn<=vn - 1 + j:=by simp at h5; omega
    have e4:(0:Int)=(lead:Int):=by rw [l0 (by omega)]; rfl
    refine ⟨(lead:Int),?_,rfl⟩
    (try dsimp only); and_intros <;> first | exact True.intro | exact e4 | rfl
   ·rintro _ V8 l8 rfl
    refine ⟨by trivial,(lead:Int),?_,rfl⟩
    (try dsimp only); and_intros <;> first | exact True.intro | rfl
  rintro _ V9 l9 rfl
  clear l2 l1 l0 hlast
  have etop:(lead:Int).tdiv (top:Int)=((lead / top:Nat):Int):=by rw [Int.tdiv_eq_ediv_of_nonneg (by omega)]; omega
  have hlt:lead / top<=lead:=Nat.div_le_self _ _
  rw [etop]
  generalize lead / top=lt at *
  obtain ⟨g0,hg0,hg0b,hg0q⟩:∃g0:Nat,minI (u64.wrap (lt:Int)) 4294967295=(g0:Int)/\g0 < 4294967296/\R / (W * 4294967296 ^ j)<=g0:=by
   rw [u64w (by omega)]
   unfold minI
   split
   ·exact ⟨4294967295,rfl,by omega,by omega⟩
   ·exact ⟨lt,rfl,by omega,hg⟩
  rw [hg0]
  clear hg0 etop hlt hg hld
  have hWW:0 < W * 4294967296 ^ j:=Nat.mul_pos hV0 hW
  have hsz:∀g:Nat,g < 4294967296->(digs g).length<=1:=fun g hg=>digs_len_le.2 (by omega)
  refine ⟨by trivial,by omega,fun V10 l10=>(c_num_Word g0 (by omega)).mono ?_⟩
  rintro r V11 l11 ⟨gp,gn,gc,rfl,h11⟩
  refine ⟨_,_,_,rfl,fun V12 l12=>(c_num_Product (hv.le (l7.trans (l9.trans (l10.trans (l11.trans l12))))) (h11.le l12) (by have:=hsz g0 hg0b; omega)).mono ?_⟩
  rintro r V13 l13 ⟨pp,pn,pc,rfl,h13⟩
  rw [val_digs,val_digs] at h13
  have hpl:=fun g=>digs_mul_len (a:=W) (b:=g)
  refine ⟨_,_,_,rfl,fun V14 l14=>(c_num_Left (h13.le l14) (by have:=hsz g0 hg0b; have:=hpl g0; omega) (32 * j) (by omega)).mono ?_⟩
  rintro r V15 l15 ⟨tp,tn,tc,rfl,h15⟩
  rw [val_digs,pow32] at h15
  have hR15:=hR.le (l9.trans (l10.trans (l11.trans (l12.trans (l13.trans (l14.trans l15))))))
  have hv15:=hv.le (l7.trans (l9.trans (l10.trans (l11.trans (l12.trans (l13.trans (l14.trans l15)))))))
  refine ⟨_,_,_,rfl,fun z V'=>∃g:Nat,z.1=g/\g < 4294967296/\R / (W * 4294967296 ^ j)<=g/\RN V' z.2.1 z.2.2.1 z.2.2.2 (W * g * 4294967296 ^ j),fun z=>z.1.toNat,
   ⟨((g0:Int),tp,tn,tc),by (try dsimp only); and_intros <;> first | exact True.intro | rfl,g0,rfl,hg0b,hg0q,h15⟩,?_⟩
  rintro ⟨_,tp,tn,tc⟩ V16 l16 ⟨g,rfl,hgb,hgq,ht⟩
  dsimp only at ht ⊢
  have htl:(digs (W * g * 4294967296 ^ j)).length<=1099511627776:=by
   have h1:=digs_mul_len (a:=W * g) (b:=4294967296 ^ j)
   have h2:=digs_pow_len j
   have h3:=hpl g
   have h4:=hsz g hgb
   omega
  refine ⟨by trivial,fun V17 l17=>(c_num_Cmp (ht.le l17) (hR15.le (l16.trans l17)) htl (by omega)).mono ?_⟩
  rintro r V18 l18 rfl
  refine ⟨_,rfl,fun h6=>?_,fun h6=>?_⟩
  ·have h6:R < W * g * 4294967296 ^ j:=by
    have h6:0 < cmpN (W * g * 4294967296 ^ j) R:=by simpa using h6
    unfold cmpN at h6
    split at h6
    ·omega
    ·split at h6
     ·assumption
     ·omega
   have hgo:=guess_go hWW h6
   have hg1:0 < g:=Nat.lt_of_le_of_lt (Nat.zero_le _) hgo
   have e1:u64.wrap ((g:Int) - 1)=((g - 1:Nat):Int):=by rw [u64w (by omega)]; omega
   simp only [e1]
   refine fun V19 l19=>(c_num_Word (g - 1) (by omega)).mono ?_
   rintro r V20 l20 ⟨gp,gn,gc,rfl,h20⟩
   refine ⟨_,_,_,rfl,fun V21 l21=>(c_num_Product (hv15.le (l16.trans (l17.trans (l18.trans (l19.trans (l20.trans l21)))))) (h20.le l21) (by have:=hsz (g - 1) (by omega); omega)).mono ?_⟩
   rintro r V22 l22 ⟨pp,pn,pc,rfl,h22⟩
   rw [val_digs,val_digs] at h22
   refine ⟨_,_,_,rfl,fun V23 l23=>(c_num_Left (h22.le l23) (by have:=hsz (g - 1) (by omega); have:=hpl (g - 1); omega) (32 * j) (by omega)).mono ?_⟩
   rintro r V24 l24 ⟨tp,tn,tc,rfl,h24⟩
   rw [val_digs,pow32] at h24
   refine ⟨_,_,_,rfl,(((g - 1:Nat):Int),tp,tn,tc),?_,by (try dsimp only); and_intros <;> first | exact True.intro | rfl,g - 1,rfl,by omega,by omega,h24⟩
   (try dsimp only); omega
  ·have h6:W * g * 4294967296 ^ j<=R:=by
    have h6:¬ 0 < cmpN (W * g * 4294967296 ^ j) R:=by simpa using h6
    unfold cmpN at h6
    split at h6
    ·omega
    ·split at h6
     ·omega
     ·omega
   have hstop:=guess_stop hWW h6 hgq
   rw [← hstop] at hI'
   have hes:=hI.len
   refine ⟨⟨by omega,by omega⟩,by simp; omega,fun V25 l25=>(c_num_Less (hR15.le (l16.trans (l17.trans (l18.trans l25)))) (ht.le (l17.trans (l18.trans l25))) (by omega) (digs_len_mono h6) (by rw [val_digs,val_digs]; exact h6)).mono ?_⟩
   rintro r V26 l26 ⟨np,nn,nc,rfl,h26⟩
   rw [val_digs,val_digs] at h26
   have e1:u32.wrap (g:Int)=(g:Int):=u32w (by omega)
   have e2:(u32s es).set (0 + j * 1) (.int .u32 (g:Int))=u32s (es.set j g):=by rw [← u32s_set]; simp
   simp only [e1]
   refine ⟨_,_,_,rfl,(np,nn,nc,(j:Int) - 1,u32s (es.set j g)),?_,by (try dsimp only); and_intros <;> first | exact True.intro | rfl | exact e2 | (rw [← u32s_set]; simp),R - W * g * 4294967296 ^ j,h26,by (try dsimp only); omega,by (try dsimp only); omega,_,rfl,?_⟩
   ·(try dsimp only); omega
   ·(try dsimp only)
    rw [show ((j:Int) - 1 + 1).toNat=j from by omega]
    exact hI'
 ·have h3:j=-1:=by simp at h3; omega
  subst h3
  have hrl0:(digs R).length<=1099511627776:=by
   have h6:=hI.lt
   have h6:R < W:=by simpa using h6
   have:=digs_len_mono (Nat.le_of_lt h6)
   omega
  intro V8 l8 bk hb
  refine (c_num_Trim (RD.blk hb hI.dig (n:=L) (c:=L) hI.len.symm (Nat.le_refl _)) (by have:=hI.len; omega)).mono ?_
  rintro r V9 l9 ⟨k,rfl,h4⟩
  refine ⟨_,_,_,rfl,fun _ V10 l10=>(c_num_Right (hR.le (l8.trans (l9.trans l10))) hrl0 s (by omega)).mono ?_⟩
  rintro r V11 l11 ⟨p2,n2,c2,rfl,h5⟩
  rw [val_digs] at h5
  refine ⟨_,_,_,rfl,fun V12 l12=>⟨_,_,_,_,_,_,rfl,?_,?_⟩⟩
  ·have h6:=hI.lt
   have h7:=hI.eq
   have h6:R < W:=by simpa using h6
   have h7:A=W * val es + R:=by simpa using h7
   obtain ⟨g1,g2⟩:=hend h7 h6
   rw [trimD_eq hI.dig,g1] at h4
   exact h4.le (l10.trans (l11.trans l12))
  ·have h6:=hI.lt
   have h7:=hI.eq
   have h6:R < W:=by simpa using h6
   have h7:A=W * val es + R:=by simpa using h7
   obtain ⟨g1,g2⟩:=hend h7 h6
   rw [g2] at h5
   exact h5.le l12
end Go.Proofs.Tryz
/- Contracts of the reference's numbers: Divide. -/
namespace Go.Proofs.Tryz
open Go.Eng Go.Big
theorem word_val {x:Nat} (h:(digs x).length<=2):x < 18446744073709551616:=by
 have:=digs_len_le.1 h
 omega
theorem copied {V:View} {b n c:Nat} {ds:List Nat} {sp:List Value} {ty:TypeId} (hd:Dig ds) (hn:n=ds.length) (hc:n<=c) (hb:V.blk b (.cells (u32s ds++sp).toArray ty (0,0))):RD V (some ⟨b,0,none⟩) n c ds:=by
 refine ⟨hn,hc,fun i v hv=>⟨_,rfl,?_⟩,hd,fun e=>nomatch e⟩
 rw [add_zero']
 refine blk_at hb ?_
 rw [List.getElem?_append_left]
 ·exact hv
 ·rcases Nat.lt_or_ge i (u32s ds).length with e | e
  ·exact e
  ·rw [List.getElem?_eq_none e] at hv; cases hv
theorem c_num_Divide {V:View} {p q:OA} {n c m e:Nat} {x y:Nat} (hx:RN V p n c x) (hy:RN V q m e y) (hm:(digs x).length<=274877906944) (hm':(digs y).length<=274877906944) (hy0:0 < y) :
  Acts prog 169 #[.slice p n c,.slice q m e] V fun r V'=>∃p1 n1 c1 p2 n2 c2,r=.tuple #[.slice p1 n1 c1,.slice p2 n2 c2]/\RN V' p1 n1 c1 (x / y)/\RN V' p2 n2 c2 (x % y):=by
 have hlx:=hx.len
 have hly:=hy.len
 have hm0:0 < m:=by
  rcases Nat.eq_zero_or_pos m with h | h
  ·have:=digs_eq_nil.1 (List.length_eq_zero_iff.1 (hly ▸ h)); omega
  ·exact h
 refine vc_num_Divide p n c q m e V _ fun V1 l1=>(c_num_word (hx.le l1) (by omega)).mono ?_
 rintro r V2 l2 rfl
 rw [val_digs]
 refine ⟨_,_,rfl,fun z V'=>True,⟨fun h0=>?_,fun h0=>⟨(),by (try dsimp only); and_intros <;> first | exact True.intro | rfl,trivial⟩⟩,?_⟩
 ·have h0:n<=2:=by simpa using h0
  refine fun V3 l3=>(c_num_word (hy.le (l1.trans (l2.trans l3))) (by omega)).mono ?_
  rintro r V4 l4 rfl
  rw [val_digs]
  refine ⟨_,_,rfl,fun h1=>?_,fun h1=>⟨(),by (try dsimp only); and_intros <;> first | exact True.intro | rfl,trivial⟩⟩
  have h1:m<=2:=by simpa using h1
  have hxw:=word_val (x:=x) (by omega)
  have hyw:=word_val (x:=y) (by omega)
  rw [if_pos h0,if_pos h1]
  have hq:x / y<=x:=Nat.div_le_self _ _
  have hr:x % y < y:=Nat.mod_lt _ hy0
  have e1:((x:Nat):Int).tdiv (y:Int)=((x / y:Nat):Int):=by rw [Int.tdiv_eq_ediv_of_nonneg (by omega)]; omega
  have e2:((x:Nat):Int).tmod (y:Int)=((x % y:Nat):Int):=by rw [Int.tmod_eq_emod_of_nonneg (by omega)]; omega
  rw [e1,e2]
  generalize x / y=qq at *
  generalize x % y=rr at *
  have e3:u64.wrap (qq:Int)=qq:=u64w (by omega)
  rw [e3]
  refine ⟨by omega,by omega,fun V5 l5=>(c_num_Word qq (by omega)).mono ?_⟩
  rintro r V6 l6 ⟨p1,n1,c1,rfl,g1⟩
  refine ⟨_,_,_,rfl,fun V7 l7=>(c_num_Word rr (by omega)).mono ?_⟩
  rintro r V8 l8 ⟨p2,n2,c2,rfl,g2⟩
  exact ⟨_,_,_,rfl,fun V9 l9=>⟨_,_,_,_,_,_,rfl,g1.le (l7.trans (l8.trans l9)),g2.le l9⟩⟩
 rintro _ V10 l10 _
 replace hx:=hx.le (l1.trans (l2.trans l10))
 replace hy:=hy.le (l1.trans (l2.trans l10))
 refine ⟨by trivial,fun V11 l11=>(c_num_Cmp (hx.le l11) (hy.le l11) (by omega) (by omega)).mono ?_⟩
 rintro r V12 l12 rfl
 replace hx:=hx.le (l11.trans l12)
 replace hy:=hy.le (l11.trans l12)
 refine ⟨_,rfl,fun h0=>⟨u32s (digs x),hx.sl,by simp [hlx],by omega,by omega,by simp,by simp [hlx],?_,?_⟩,fun h0=>⟨fun h1=>?_,fun h1=>?_⟩⟩
 ·intro v hv
  simp only [u32s,List.mem_map] at hv
  obtain ⟨d,-,rfl⟩:=hv
  rfl
 ·have h0:x < y:=by simpa [cmpN_neg] using h0
  intro bk J sp c' h1 h2 V1 l1 b hb
  rw [Nat.div_eq_of_lt h0,Nat.mod_eq_of_lt h0]
  refine ⟨_,_,_,_,_,_,rfl,RD.nil,?_⟩
  simp only [Nat.zero_add,Nat.zero_mul,List.take_zero,List.nil_append] at hb h1 ⊢
  exact copied (dig_digs x) hlx h1 hb
 ·have h0:y<=x:=by simpa [← Int.not_lt,cmpN_neg] using h0
  have h1:m=1:=by simp at h1; omega
  subst h1
  obtain ⟨d,hd⟩:=one_of_len (ds:=digs y) (by omega)
  have hdy:d=y:=by have:=val_digs y; rw [hd] at this; simpa using this
  subst hdy
  have hdl:d < 4294967296:=by have:=dig_digs d; rw [hd] at this; exact (Dig.cons.1 this).1
  try unfold RN at hy
  rw [hd] at hy
  have hn0:0 < n:=by have:=digs_len_mono h0; omega
  have w1:i64.wrap ((n:Int) - 1)=(n:Int) - 1:=i64w (by omega)
  simp only [w1,Int.toNat_natCast,u32s_rep]
  have hdx:=dig_digs x
  have hvx:=val_digs x
  try unfold RN at hx
  clear hd
  rw [← hvx]
  clear hvx h0
  generalize digs x=xs at *
  refine ⟨by omega,by omega,by omega,fun z V'=>0<=z.1/\z.1 < d/\-1<=z.2.1/\z.2.1 < n/\∃es:List Nat,z.2.2=u32s es/\es.length=n/\Dig es /\
   val (xs.drop (z.2.1 + 1).toNat)=d * val (es.drop (z.2.1 + 1).toNat) + z.1.toNat,fun z=>(z.2.1 + 1).toNat,
   ⟨(0,(n:Int) - 1,u32s (List.replicate n 0)),by (try dsimp only); and_intros <;> first | exact True.intro | rfl,by (try dsimp only); omega,by (try dsimp only); omega,by (try dsimp only); omega,by (try dsimp only); omega,_,rfl,by simp,Dig.rep _,?_⟩,?_⟩
  ·(try dsimp only)
   rw [List.drop_of_length_le (by omega),List.drop_of_length_le (by simp)]; rfl
  rintro ⟨rest,i,vs⟩ V14 l14 ⟨hr0,hr1,hi0,hi1,es,rfl,hes,hde,hv⟩
  dsimp only at hr0 hr1 hi0 hi1 hv ⊢
  obtain ⟨rest,rfl⟩:=Int.eq_ofNat_of_zero_le hr0
  refine ⟨by trivial,fun h3=>?_,fun h3=>?_⟩
  ·have h3:0<=i:=by simpa using h3
   obtain ⟨i,rfl⟩:=Int.eq_ofNat_of_zero_le h3
   have hi2:((i:Int) + 1).toNat=i + 1:=by omega
   rw [hi2] at hv
   simp only [Int.toNat_natCast] at hv ⊢
   have hdxi:=hdx.get (i:=i) (by omega)
   refine (hx.le l14).rd i rfl (by omega) (rdOne (hy.le l14) (by simp) fun V15 l15=>(c_Div32 rest xs[i] d (by omega) hdxi hdl).mono ?_)
   rintro r V16 l16 rfl
   have hq:(rest * 4294967296 + xs[i]) / d < 4294967296:=by
    rw [Nat.div_lt_iff_lt_mul (by omega)]
    have:rest + 1<=d:=by omega
    have:=Nat.mul_le_mul_right 4294967296 this
    rw [Nat.mul_comm 4294967296 d]
    omega
   have hr:(rest * 4294967296 + xs[i]) % d < d:=Nat.mod_lt _ (by omega)
   have hdm:=Nat.div_add_mod (rest * 4294967296 + xs[i]) d
   generalize (rest * 4294967296 + xs[i]) / d=q at *
   generalize (rest * 4294967296 + xs[i]) % d=r at *
   have w2:i64.wrap ((i:Int) - 1)=(i:Int) - 1:=i64w (by omega)
   simp only [w2]
   refine ⟨_,_,rfl,⟨by omega,by omega⟩,by simp; omega,((r:Int),(i:Int) - 1,u32s (es.set i q)),?_,?_,?_⟩
   ·(try dsimp only); omega
   ·(try dsimp only); and_intros <;> first | exact True.intro | rfl | (rw [← u32s_set]; simp)
   ·(try dsimp only)
    refine ⟨by omega,by omega,by omega,by omega,_,rfl,by simpa using hes,hde.set _ _ (by omega),?_⟩
    have hi3:((i:Int) - 1 + 1).toNat=i:=by omega
    rw [hi3,List.drop_eq_getElem_cons (by omega),List.drop_eq_getElem_cons (l:=es.set i q) (by simp; omega),List.getElem_set_self,List.drop_set_of_lt (by omega)]
    have h9:xs[i] + 4294967296 * val (List.drop (i+1) xs)=d * (q + 4294967296 * val (List.drop (i+1) es)) + r:=short_step hv hdm
    rw [val_cons,val_cons,Int.toNat_natCast]
    exact h9
  ·have h3:i=-1:=by simp at h3; omega
   subst h3
   simp only [Int.toNat_natCast] at hv
   have hv:val xs=d * val es + rest:=by simpa using hv
   intro V17 l17 bk hb
   refine (c_num_Trim (RD.blk hb hde (n:=n) (c:=n) (by omega) (Nat.le_refl _)) (by omega)).mono ?_
   rintro r V18 l18 ⟨k,rfl,h4⟩
   refine ⟨_,_,_,rfl,fun _ V19 l19 bk2 hb2=>?_⟩
   have hb2:V19.blk bk2 (.cells (u32s [rest]).toArray 264 (0,0)):=by
    simpa [u32s] using hb2
   refine (c_num_Trim (RD.blk hb2 (n:=1) (c:=1) (by simp [Dig]; omega) rfl (Nat.le_refl _)) (by simp)).mono ?_
   rintro r V20 l20 ⟨k2,rfl,h5⟩
   refine ⟨_,_,_,rfl,fun _ V21 l21=>⟨_,_,_,_,_,_,rfl,?_,?_⟩⟩
   ·have e1:val xs / d=val es:=by rw [hv,Nat.mul_add_div (by omega),Nat.div_eq_of_lt (by omega),Nat.add_zero]
    rw [trimD_eq hde] at h4
    rw [e1]
    exact h4.le (l19.trans (l20.trans l21))
   ·have e2:val xs % d=rest:=by rw [hv,Nat.mul_add_mod,Nat.mod_eq_of_lt (by omega)]
    rw [trimD_eq (by simp [Dig]; omega)] at h5
    have e3:val [rest]=rest:=by simp
    rw [e3] at h5
    rw [e2]
    exact h5.le l21
 ·have h0:y<=x:=by simpa [← Int.not_lt,cmpN_neg] using h0
  refine fun V13 l13=>(c_num_long (hx.le l13) (hy.le l13) hm hy0 (digs_len_mono h0)).mono ?_
  rintro r V14 l14 ⟨p1,n1,c1,p2,n2,c2,rfl,g1,g2⟩
  exact ⟨_,_,_,_,_,_,rfl,fun V15 l15=>⟨_,_,_,_,_,_,rfl,g1.le l15,g2.le l15⟩⟩
end Go.Proofs.Tryz
/- Contracts of the reference's numbers: Common. -/
namespace Go.Proofs.Tryz
open Go.Eng Go.Big
theorem c_num_Common {V:View} {p q:OA} {n c m e:Nat} {x y:Nat} (hx:RN V p n c x) (hy:RN V q m e y) (hm:(digs x).length<=274877906944) (hm':(digs y).length<=274877906944) :
  Acts prog 168 #[.slice p n c,.slice q m e] V fun r V'=>∃p1 n1 c1,r=.slice p1 n1 c1/\RN V' p1 n1 c1 (Nat.gcd x y):=by
 have hlx:=hx.len
 have hly:=hy.len
 refine vc_num_Common p n c q m e V _ fun V1 l1=>(c_num_word (hx.le l1) (by omega)).mono ?_
 rintro r V2 l2 rfl
 rw [val_digs]
 refine ⟨_,_,rfl,fun z V'=>True,⟨fun h0=>?_,fun h0=>⟨(),by (try dsimp only); and_intros <;> first | exact True.intro | rfl,trivial⟩⟩,?_⟩
 ·have h0:n<=2:=by simpa using h0
  refine fun V3 l3=>(c_num_word (hy.le (l1.trans (l2.trans l3))) (by omega)).mono ?_
  rintro r V4 l4 rfl
  rw [val_digs]
  refine ⟨_,_,rfl,fun h1=>?_,fun h1=>⟨(),by (try dsimp only); and_intros <;> first | exact True.intro | rfl,trivial⟩⟩
  have h1:m<=2:=by simpa using h1
  have hxw:=word_val (x:=x) (by omega)
  have hyw:=word_val (x:=y) (by omega)
  rw [if_pos h0,if_pos h1]
  refine ⟨fun z V'=>∃a b:Nat,z=((a:Int),(b:Int))/\a < 18446744073709551616/\b < 18446744073709551616/\Nat.gcd a b=Nat.gcd x y,fun z=>z.2.toNat,
   ⟨((x:Int),(y:Int)),by (try dsimp only); and_intros <;> first | exact True.intro | rfl,x,y,rfl,hxw,hyw,rfl⟩,?_⟩
  rintro _ V5 l5 ⟨a,b,rfl,ha,hb,hg⟩
  dsimp only
  refine ⟨by trivial,fun h3=>?_,fun h3=>?_⟩
  ·have h3:0 < b:=by simpa using h3
   have e2:(a:Int).tmod (b:Int)=((a % b:Nat):Int):=by rw [Int.tmod_eq_emod_of_nonneg (by omega)]; omega
   have hr:a % b < b:=Nat.mod_lt _ h3
   refine ⟨by omega,((b:Int),((a % b:Nat):Int)),?_,by (try dsimp only); and_intros <;> first | exact True.intro | rfl | exact e2,b,a % b,rfl,hb,by omega,?_⟩
   ·(try dsimp only); simp only [Int.toNat_natCast]; exact hr
   ·rw [← hg,Nat.gcd_comm a b,Nat.gcd_rec b a,Nat.gcd_comm]
  ·have h3:b=0:=by simp at h3; omega
   subst h3
   rw [Nat.gcd_zero_right] at hg
   refine fun V6 l6=>(c_num_Word a ha).mono ?_
   rintro r V7 l7 ⟨p1,n1,c1,rfl,g1⟩
   rw [hg] at g1
   exact ⟨_,_,_,rfl,fun V8 l8=>⟨_,_,_,rfl,g1.le l8⟩⟩
 rintro _ V9 l9 _
 replace hx:=hx.le (l1.trans (l2.trans l9))
 replace hy:=hy.le (l1.trans (l2.trans l9))
 refine ⟨by trivial,fun z k V'=>∃a b:Nat,RN V' z.1 z.2.1 z.2.2.1 a/\RN V' z.2.2.2.1 z.2.2.2.2.1 z.2.2.2.2.2 b/\b=k/\(digs a).length<=274877906944/\(digs b).length<=274877906944/\Nat.gcd a b=Nat.gcd x y,
  ⟨(p,n,c,q,m,e),y,by (try dsimp only); and_intros <;> first | exact True.intro | rfl,x,y,hx,hy,rfl,hm,hm',rfl⟩,?_⟩
 rintro ⟨ap,an,ac,bp,bn,bc⟩ _ V10 l10 ⟨a,b,ha,hb,rfl,hal,hbl,hg⟩
 dsimp only at ha hb ⊢
 have hla:=ha.len
 have hlb:=hb.len
 refine ⟨by trivial,fun h3=>?_,fun h3=>?_⟩
 ·have h3:0 < bn:=by simpa using h3
  have hb0:0 < b:=by
   rcases Nat.eq_zero_or_pos b with h | h
   ·subst h; simp at hlb; omega
   ·exact h
  refine fun V11 l11=>(c_num_Divide (ha.le l11) (hb.le l11) hal hbl hb0).mono ?_
  rintro r V12 l12 ⟨p1,n1,c1,p2,n2,c2,rfl,g1,g2⟩
  have hr:a % b < b:=Nat.mod_lt _ hb0
  have hrl:=digs_len_mono (Nat.le_of_lt hr)
  refine ⟨_,_,_,_,_,_,rfl,(bp,bn,bc,p2,n2,c2),a % b,hr,by (try dsimp only); and_intros <;> first | exact True.intro | rfl,b,a % b,hb.le (l11.trans l12),g2,rfl,hbl,by omega,?_⟩
  rw [← hg,Nat.gcd_comm a b,Nat.gcd_rec b a,Nat.gcd_comm]
 ·have h3:bn=0:=by simp at h3; omega
  have hb0:b=0:=digs_eq_nil.1 (List.length_eq_zero_iff.1 (by omega))
  subst hb0
  rw [Nat.gcd_zero_right] at hg
  rw [← hg]
  refine ⟨u32s (digs a),ha.sl,by simp [hla],by omega,by omega,by simp,by simp [hla],?_,?_⟩
  ·intro v hv
   simp only [u32s,List.mem_map] at hv
   obtain ⟨d,-,rfl⟩:=hv
   rfl
  ·intro bk J sp c' h1 h2 V1 l1 b hb
   refine ⟨_,_,_,rfl,?_⟩
   simp only [Nat.zero_add,Nat.zero_mul,List.take_zero,List.nil_append] at hb h1 ⊢
   exact copied (dig_digs a) hla h1 hb
end Go.Proofs.Tryz
