/- A part of the proof (joined by program from: NatH, NatI, VInt, IntA, VFrac, FracA). -/
import Derived.Test.YtimkdinmcbepnaaGreatDoorS7
import Derived.Test.YtimkdinmcbepnaaGreatDoorS5
set_option linter.unusedVariables false
open Go.IntKind (i64 u64 u32)
/- Contract of package nat: long, the walk. -/
namespace Go.Proofs.Tryz
open Go.Eng Go.Big
/-- What holds at the head of the division's loop. -/
structure OI (X Y n n8:Nat) (j:Int) (us qs:List Nat):Prop where
 j0:-1<=j
 j1:j < (n + 1 - n8:Nat)
 ul:us.length=n + 1
 ud:Dig us
 ql:qs.length=n + 1 - n8
 qd:Dig qs
 eq:X=val us + Y * (4294967296 ^ (j + 1).toNat * val (qs.drop (j + 1).toNat))
 lt:val (us.drop (j + 1).toNat) < Y
/-- The divisor: its two first digits. -/
structure DK (Y n8 k v1 v2:Nat):Prop where
 hn8:n8=k + 2
 len:(digs Y).length=n8
 g1:(digs Y)[k + 1]?=some v1
 g2:(digs Y)[k]?=some v2
 l1:2147483648<=v1
 u1:v1 < 4294967296
 u2:v2 < 4294967296
 eq:Y=(v1 * 4294967296 + v2) * 4294967296 ^ k + val ((digs Y).take k)
 lt:val ((digs Y).take k) < 4294967296 ^ k
 top:Y < 4294967296 ^ n8
theorem DK.of {Y n8:Nat} (hl:(digs Y).length=n8) (h2:2<=n8) (ht:2147483648 * 4294967296 ^ (n8 - 1)<=Y):∃k v1 v2,DK Y n8 k v1 v2:=by
 obtain ⟨k,hk⟩:∃k,n8=k + 2:=⟨n8 - 2,by omega⟩
 have hYs:=top2 (us:=digs Y) (k:=k) (by omega)
 rw [val_digs] at hYs
 have hv':=val_lt ((dig_digs Y).take k)
 rw [List.length_take,Nat.min_eq_left (by omega)] at hv'
 have hdv1:=(dig_digs Y).get (i:=k + 1) (by omega)
 have hdv2:=(dig_digs Y).get (i:=k) (by omega)
 have hv1:2147483648<=(digs Y)[k + 1]:=by
  rcases Nat.lt_or_ge (digs Y)[k + 1] 2147483648 with hc | hc
  ·exfalso
   have a1:((digs Y)[k + 1] * 4294967296 + (digs Y)[k]) + 1<=2147483648 * 4294967296:=by omega
   have a2:=Nat.mul_le_mul_right (4294967296 ^ k) a1
   rw [Nat.add_mul,Nat.one_mul] at a2
   have a3:2147483648 * 4294967296 ^ (k + 1)=2147483648 * 4294967296 * 4294967296 ^ k:=by rw [Nat.pow_succ]; grind
   rw [show n8 - 1=k + 1 from by omega,a3] at ht
   omega
  ·exact hc
 exact ⟨k,_,_,hk,hl,List.getElem?_eq_getElem _,List.getElem?_eq_getElem _,hv1,hdv1,hdv2,hYs,hv',by rw [← hl,← digs_len_le]; exact Nat.le_refl _⟩
theorem OI.start {x X Y n n8 s:Nat} (hX:X=x * 2 ^ s) (hx:(digs x).length=n) (hs:s < 32) (hn8:2<=n8) (hn:n8<=n) (hY:2147483648 * 4294967296 ^ (n8 - 1)<=Y) (hXl:(digs X).length<=n + 1) :
  OI X Y n n8 (((n + 1 - n8:Nat):Int) - 1) ((digs X++[0,0]).take (n + 1)) (List.replicate (n + 1 - n8) 0):=by
 have hn4:n<=(digs X).length:=by rw [← hx,hX]; exact digs_len_mono (Nat.le_mul_of_pos_right _ (Nat.two_pow_pos s))
 have hul:((digs X++[0,0]).take (n + 1)).length=n + 1:=by simp; omega
 have huv:val ((digs X++[0,0]).take (n + 1))=X:=by
  have a1:val (digs X++[0,0])=X:=by rw [val_append,val_digs]; simp
  have a2:=val_take_drop (digs X++[0,0]) (n + 1) (by simp; omega)
  have a3:val ((digs X++[0,0]).drop (n + 1))=0:=by
   refine drop_zero_of_lt ?_ (by simp; omega)
   rw [a1]
   exact digs_len_le.1 (by omega)
  rw [a3,Nat.mul_zero,Nat.add_zero,a1] at a2
  exact a2.symm
 have a0:(((n + 1 - n8:Nat):Int) - 1 + 1).toNat=n + 1 - n8:=by omega
 refine ⟨by omega,by omega,hul,(Dig.append.2 ⟨dig_digs X,by simp [Dig]⟩).take _,by simp,Dig.rep _,?_,?_⟩
 ·rw [a0,List.drop_of_length_le (by simp),val_nil,Nat.mul_zero,Nat.mul_zero,Nat.add_zero,huv]
 ·rw [a0]
  have a1:=val_take_drop ((digs X++[0,0]).take (n + 1)) (n + 1 - n8) (by omega)
  rw [huv] at a1
  have hXlt:X < 4294967296 ^ n * 2 ^ s:=by rw [hX]; exact Nat.mul_lt_mul_of_pos_right (by rw [← hx]; exact digs_len_le.1 (Nat.le_refl _)) (Nat.two_pow_pos s)
  have h2s:2 ^ s<=2 ^ 31:=Nat.pow_le_pow_right (by omega) (by omega)
  have a2:4294967296 ^ n * 2 ^ s<=4294967296 ^ (n + 1 - n8) * Y:=by
   have b1:4294967296 ^ n=4294967296 ^ (n + 1 - n8) * 4294967296 ^ (n8 - 1):=by rw [← Nat.pow_add]; congr 1; omega
   rw [b1,Nat.mul_assoc]
   refine Nat.mul_le_mul_left _ ?_
   have b2:2 ^ s * 4294967296 ^ (n8 - 1)<=2147483648 * 4294967296 ^ (n8 - 1):=Nat.mul_le_mul_right _ (by omega)
   rw [Nat.mul_comm]
   omega
  have a3:4294967296 ^ (n + 1 - n8) * val (((digs X++[0,0]).take (n + 1)).drop (n + 1 - n8)) < 4294967296 ^ (n + 1 - n8) * Y:=by omega
  exact Nat.lt_of_mul_lt_mul_left a3
theorem OI.body {X Y n n8 k v1 v2 j:Nat} {us qs:List Nat} (h:OI X Y n n8 (j:Int) us qs) (hd:DK Y n8 k v1 v2) (hjn:j + n8<=n) :
  val (us.drop (j + n8 + 1))=0/\∃u0 u1 u2 t',us[j + n8]?=some u0/\us[j + n8 - 1]?=some u1/\us[j + n8 - 2]?=some u2/\GK v1 v2 (val ((digs Y).take k)) u0 u1 u2 t' (4294967296 ^ k) (val (us.drop j)) Y:=by
 obtain ⟨-,-,hus,hdu,hqs,hdq,hXe,hrem⟩:=h
 have hj2:((j:Int) + 1).toNat=j + 1:=by omega
 rw [hj2] at hXe hrem
 have hk:=hd.hn8
 have hYlt:=hd.top
 have hT1:val (us.drop j)=us[j] + 4294967296 * val (us.drop (j + 1)):=by rw [List.drop_eq_getElem_cons (by omega),val_cons]
 have huj:=hdu.get (i:=j) (by omega)
 have hz:val (us.drop (j + n8 + 1))=0:=by
  have:=drop_zero_of_lt (us:=us.drop (j + 1)) (k:=n8) (by omega) (by simp; omega)
  rw [List.drop_drop] at this
  rw [show j + n8 + 1=j + 1 + n8 from by omega]; exact this
 have ht':=val_lt ((hdu.drop j).take k)
 rw [List.length_take,List.length_drop,Nat.min_eq_left (by omega)] at ht'
 refine ⟨hz,us[j + n8],us[j + n8 - 1],us[j + n8 - 2],val ((us.drop j).take k),List.getElem?_eq_getElem _,List.getElem?_eq_getElem _,List.getElem?_eq_getElem _,
  hd.eq,?_,hd.lt,ht',hd.l1,hd.u1,hd.u2,hdu.get _,hdu.get _,hdu.get _,by omega⟩
 have:=top3 (us:=us.drop j) (k:=k) (by simp; omega) (by rw [List.drop_drop,show j + (k + 3)=j + n8 + 1 from by omega]; exact hz)
 simp only [List.getElem_drop] at this
 rw [this]
 congr <;> omega
theorem OI.next {X Y n n8 j H:Nat} {us qs hs:List Nat} (h:OI X Y n n8 (j:Int) us qs) (hjn:j + n8<=n) (h1:hs.length=us.length) (hdh:Dig hs) (h2:hs.take j=us.take j) (h3:val (hs.drop j) + H * Y=val (us.drop j)) (h4:val (hs.drop j) < Y) (hH:H < 4294967296) :
  OI X Y n n8 ((j:Int) - 1) hs (qs.set j H):=by
 obtain ⟨-,hj1,hus,hdu,hqs,hdq,hXe,hrem⟩:=h
 have hj2:((j:Int) + 1).toNat=j + 1:=by omega
 have hj5:((j:Int) - 1 + 1).toNat=j:=by omega
 rw [hj2] at hXe
 refine ⟨by omega,by omega,by omega,hdh,by simpa using hqs,hdq.set _ _ hH,?_,by rw [hj5]; exact h4⟩
 have a1:=val_take_drop hs j (by omega)
 have a2:=val_take_drop us j (by omega)
 rw [h2] at a1
 rw [← h3] at a2
 rw [hj5,List.drop_eq_getElem_cons (l:=qs.set j H) (by simp; omega),List.getElem_set_self,List.drop_set_of_lt (by omega),val_cons,hXe,a1,a2,Nat.pow_succ]
 grind
theorem OI.done {x y X Y n n8 s:Nat} {us qs:List Nat} (h:OI X Y n n8 (-1) us qs) (hX:X=x * 2 ^ s) (hY:Y=y * 2 ^ s) (hn:n8<=n + 1) (hYl:Y < 4294967296 ^ n8):val qs=x / y/\val (us.take n8) / 2 ^ s=x % y:=by
 obtain ⟨-,-,hus,hdu,hqs,hdq,hXe,hrem⟩:=h
 have hXe:X=val us + Y * val qs:=by simpa using hXe
 have hrem:val us < Y:=by simpa using hrem
 have hYp:0 < Y:=by omega
 have hzz:=drop_zero_of_lt (us:=us) (k:=n8) (by omega) (by omega)
 have hut:val (us.take n8)=val us:=by
  have:=val_take_drop us n8 (by omega)
  rw [hzz,Nat.mul_zero,Nat.add_zero] at this
  exact this.symm
 constructor
 ·rw [← Nat.mul_div_mul_right x y (Nat.two_pow_pos s),← hX,← hY,hXe,Nat.add_mul_div_left _ _ hYp,Nat.div_eq_of_lt hrem,Nat.zero_add]
 ·have:x * 2 ^ s % (y * 2 ^ s)=val us:=by
   rw [← hX,← hY,hXe,Nat.add_mul_mod_self_left,Nat.mod_eq_of_lt hrem]
  rw [Nat.mul_mod_mul_right] at this
  rw [hut,← this,Nat.mul_div_cancel _ (Nat.two_pow_pos s)]
set_option maxHeartbeats 8000000 in
theorem c_nat_long {V:View} {p q:OA} {n c m e:Nat} {x y:Nat} (ha:RN V p n c x) (hb:RN V q m e y) (hn:n<=1099511627776) (hm2:2<=m) (hle:y<=x) :
  Acts prog 228 #[.slice p n c,.slice q m e] V fun r V'=>∃p1 n1 c1 p2 n2 c2,r=.tuple #[.slice p1 n1 c1,.slice p2 n2 c2]/\RN V' p1 n1 c1 (x / y)/\RN V' p2 n2 c2 (x % y):=by
 have hla:=ha.len
 have hlb:=hb.len
 have hmn:m<=n:=by rw [hla,hlb]; exact digs_len_mono hle
 refine vc_nat_long p n c q m e V _ ?_
 simp (disch:=omega) only [i64w]
 refine hb.rd (m - 1) (by omega) (by omega) fun V1 l1=>(c_LeadingZeros32 _ ((dig_digs y).get (by omega))).mono ?_
 rintro r V2 l2 rfl
 refine ⟨_,rfl,?_⟩
 obtain ⟨t,ht⟩:∃t,t=(digs y)[m - 1]'(by omega):=⟨_,rfl⟩
 rw [← ht]
 have hbl:blen t<=32:=blen_le.2 (by rw [ht]; exact (dig_digs y).get _)
 obtain ⟨s,hs⟩:∃s,s=32 - blen t:=⟨_,rfl⟩
 have es:(32 - (blen t:Int))=(s:Int):=by omega
 obtain ⟨hs32,hvl,hvt⟩:=shift_facts hlb.symm (by omega) ht hs
 rw [es,u64w (by omega)]
 clear es hbl
 intro V3 l3
 refine (c_nat_Shl (ha.le (l1.trans (l2.trans l3))) (by omega) s (by omega)).mono ?_
 rintro r V4 l4 ⟨p4,n4,c4,rfl,h4,hc4⟩
 rw [val_digs] at h4 hc4
 have hx0:x≠0:=by
  intro e0; subst e0
  rw [digs_zero] at hla
  simp at hla; omega
 have hc4:c4=n + 1:=by
  rcases hc4 with e0 | e0
  ·exact absurd e0 hx0
  ·rw [e0,← hla,Nat.div_eq_of_lt hs32]
 have hl4:=h4.len
 have hXlt:x * 2 ^ s < 4294967296 ^ n * 2 ^ s:=Nat.mul_lt_mul_of_pos_right (by rw [hla]; exact digs_len_le.1 (Nat.le_refl _)) (Nat.two_pow_pos s)
 have h2s:2 ^ s<=2 ^ 31:=Nat.pow_le_pow_right (by omega) (by omega)
 have hn4:n<=n4/\n4<=n + 1:=by
  constructor
  ·rw [hl4,hla]; exact digs_len_mono (Nat.le_mul_of_pos_right _ (Nat.two_pow_pos s))
  ·rw [hl4,digs_len_le,Nat.pow_succ]
   have:4294967296 ^ n * 2 ^ s<=4294967296 ^ n * 4294967296:=Nat.mul_le_mul_left _ (by omega)
   omega
 refine ⟨_,_,_,rfl,u32s (digs (x * 2 ^ s)),h4.sl,by simp; omega,h4.cap,h4.nilc,by omega,by omega,rfl,by simp [Value.oneCell'],?_⟩
 intro sp c7 hc71 hc72
 refine ⟨⟨by omega,by omega⟩,fun V5 l5=>(c_nat_Shl (hb.le (l1.trans (l2.trans (l3.trans (l4.trans l5))))) (by omega) s (by omega)).mono ?_⟩
 rintro r V6 l6 ⟨p8,n8,c8,rfl,h8,-⟩
 rw [val_digs] at h8
 have hl8:=h8.len
 rw [hvl] at hl8
 subst hl8
 refine ⟨_,_,_,rfl,?_⟩
 obtain ⟨k,v1,v2,hDK⟩:=DK.of hvl hm2 hvt
 have hk:=hDK.hn8
 have hv1:=hDK.l1
 have hv1u:=hDK.u1
 have hv2u:=hDK.u2
 have hOI:=OI.start (Y:=y * 2 ^ s) rfl hla.symm hs32 hm2 hmn hvt (by omega)
 have w6:i64.wrap ((n8:Int) - 1)=(n8:Int) - 1:=i64w (by omega)
 have w7:i64.wrap ((n8:Int) - 2)=(n8:Int) - 2:=i64w (by omega)
 simp only [w6,w7]
 refine h8.rdq (k + 1) (by omega) hDK.g1 (h8.rdq k (by omega) hDK.g2 ?_)
 have hn1:((n:Int) + 1).toNat=n + 1:=by omega
 have hn2:(((n + 1:Nat):Int) - (n8:Int)).toNat=n + 1 - n8:=by omega
 have w1:i64.wrap ((n:Int) + 1)=(n:Int) + 1:=i64w (by omega)
 have w2:u64.wrap (v1:Int)=v1:=u64w (by omega)
 have w3:u64.wrap (v2:Int)=v2:=u64w (by omega)
 have w4:i64.wrap (((n + 1:Nat):Int) - (n8:Int))=((n + 1:Nat):Int) - (n8:Int):=i64w (by omega)
 have w5:i64.wrap (((n + 1 - n8:Nat):Int) - 1)=((n + 1 - n8:Nat):Int) - 1:=i64w (by omega)
 simp only [hn1,w2,w3,w4,hn2,w5,u32s_rep]
 obtain ⟨tl,htl⟩:∃tl,tl=u32s ((digs (x * 2 ^ s)++[0,0]).drop (n + 1))++sp:=⟨_,rfl⟩
 have hrow:u32s (digs (x * 2 ^ s))++([.int .u32 0,.int .u32 0]:List Value)++sp=u32s ((digs (x * 2 ^ s)++[0,0]).take (n + 1))++tl:=by
  rw [htl,← List.append_assoc,← u32s_append,List.take_append_drop,u32s_append]; rfl
 rw [hrow]
 clear htl hrow hvt hXlt h2s hc4 hs ht
 generalize hX:x * 2 ^ s=X at *
 generalize hY:y * 2 ^ s=Y at *
 refine ⟨by omega,by omega,by omega,fun z V'=>∃us qs:List Nat,z.2.1=u32s us++tl/\z.2.2=u32s qs/\OI X Y n n8 z.1 us qs,fun z=>(z.1 + 1).toNat,
  ⟨(((n + 1 - n8:Nat):Int) - 1,u32s ((digs X++[0,0]).take (n + 1))++tl,u32s (List.replicate (n + 1 - n8) 0)),?_,_,_,rfl,rfl,hOI⟩,?_⟩
 ·(try dsimp only); and_intros <;> first | exact True.intro | rfl
 rintro ⟨j,row,qrow⟩ V7 l7 ⟨us,qs,rfl,rfl,hO⟩
 dsimp only at hO ⊢
 have hj0:=hO.j0
 have hj1:=hO.j1
 have hus:=hO.ul
 have hqs:=hO.ql
 refine ⟨by trivial,fun h3=>?_,fun h3=>?_⟩
 ·have h3:0<=j:=by simpa using h3
  obtain ⟨j,rfl⟩:=Int.eq_ofNat_of_zero_le h3
  have hjn:j + n8<=n:=by omega
  obtain ⟨hz,u0,u1,u2,t',hu0,hu1,hu2,hK⟩:=hO.body hDK hjn
  obtain ⟨eb,eq1,eq2⟩:=hK.words
  have w8:i64.wrap ((j:Int) + n8)=((j + n8:Nat):Int):=by rw [i64w (by omega)]; omega
  have w9:i64.wrap (((j + n8:Nat):Int) - 1)=((j + n8 - 1:Nat):Int):=by rw [i64w (by omega)]; omega
  have w10:i64.wrap (((j + n8:Nat):Int) - 2)=((j + n8 - 2:Nat):Int):=by rw [i64w (by omega)]; omega
  have hjw:i64.wrap ((j:Int) - 1)=(j:Int) - 1:=i64w (by omega)
  simp only [w8,w9,w10,hjw,Int.toNat_natCast]
  refine ⟨⟨by omega,by omega⟩,_,row_getq hu0,by omega,⟨by omega,by omega⟩,_,row_getq hu1,by omega,by omega,?_⟩
  rw [eb,eq1,eq2]
  clear eb eq1 eq2
  refine ⟨fun g V'=>∃G:Nat,g=(G:Int)/\GF (val (us.drop j)) Y G,
   ⟨fun z V'=>∃G ρ:Nat,z=((G:Int),(ρ:Int))/\GI v1 (u0 * 4294967296 + u1) (val (us.drop j)) Y G ρ,fun z=>z.1.toNat,
    ⟨((((u0 * 4294967296 + u1) / v1:Nat):Int),(((u0 * 4294967296 + u1) % v1:Nat):Int)),by (try dsimp only); and_intros <;> first | exact True.intro | rfl,_,_,rfl,hK.start⟩,?_⟩,?_⟩
  ·rintro _ V8 l8 ⟨G,ρ,rfl,hGI⟩
   obtain ⟨hmulG,hor,w11,w12⟩:=hK.words2 hGI
   dsimp only
   have t1:∀a:Nat,((((a / 2 ^ 32:Nat):Int) != 0)=true↔4294967296<=a)/\((((a / 2 ^ 32:Nat):Int) != 0)=false↔a < 4294967296):=by
    intro a
    constructor
    ·rw [bne_iff_ne]; omega
    ·rw [bne_eq_false_iff_eq]; omega
   simp only [w11,fdiv_nat,(t1 _).1,(t1 _).2]
   refine ⟨by trivial,by omega,fun hc=>⟨by omega,fun hd=>?_,fun hd=>?_⟩,fun hc=>⟨by omega,⟨by omega,by omega⟩,_,row_getq hu2,fun ht=>⟨by omega,fun hd=>?_,fun hd=>?_⟩,fun ht=>?_⟩⟩
   ·obtain ⟨g1,g2⟩:=hK.downA hGI (hK.big hc) hd
    exact ⟨((G - 1:Nat):Int),by rw [w12 g1]; (try dsimp only); and_intros <;> first | exact True.intro | rfl,G - 1,rfl,g2⟩
   ·obtain ⟨g1,g2⟩:=hK.downB hGI (hK.big hc) hd
    exact ⟨(((G - 1:Nat):Int),((ρ + v1:Nat):Int)),by (try dsimp only); omega,by rw [w12 g1]; (try dsimp only); and_intros <;> first | exact True.intro | rfl,G - 1,ρ + v1,rfl,g2⟩
   ·have h1:=hK.dec hGI (by rw [hmulG,hor,decide_eq_true_eq] at ht; omega)
    obtain ⟨g1,g2⟩:=hK.downA hGI h1 hd
    exact ⟨((G - 1:Nat):Int),by rw [w12 g1]; (try dsimp only); and_intros <;> first | exact True.intro | rfl,G - 1,rfl,g2⟩
   ·have h1:=hK.dec hGI (by rw [hmulG,hor,decide_eq_true_eq] at ht; omega)
    obtain ⟨g1,g2⟩:=hK.downB hGI h1 hd
    exact ⟨(((G - 1:Nat):Int),((ρ + v1:Nat):Int)),by (try dsimp only); omega,by rw [w12 g1]; (try dsimp only); and_intros <;> first | exact True.intro | rfl,G - 1,ρ + v1,rfl,g2⟩
   ·have h1:G * v2<=ρ * 4294967296 + u2:=by rw [hmulG,hor,decide_eq_false_iff_not] at ht; omega
    exact ⟨(G:Int),by (try dsimp only); and_intros <;> first | exact True.intro | rfl,G,rfl,hK.last hGI hc h1⟩
  ·rintro _ V9 l9 ⟨G,rfl,hGF⟩
   have hGl:=hGF.g
   clear hK hu0 hu1 hu2
   have hvl:=hDK.len
   have hvs:=val_digs Y
   refine ⟨by trivial,fun z V'=>∃(b c i:Nat) (fs:List Nat),z=((b:Int),(c:Int),(i:Int),u32s fs++tl)/\SubI us (digs Y) j G i b c fs,fun z=>n8 - z.2.2.1.toNat,
     ⟨(0,0,0,u32s us++tl),by (try dsimp only); and_intros <;> first | exact True.intro | rfl,0,0,0,us,rfl,by omega,by omega,by omega,rfl,hO.ud,rfl,rfl,by simp⟩,?_⟩
   rintro _ V10 l10 ⟨b,c,i,fs,rfl,hS⟩
   dsimp only
   simp only [Int.toNat_natCast]
   have hi:=hS.hi
   have hfl:=hS.len
   refine ⟨by trivial,fun hc=>?_,fun hc=>?_⟩
   ·have hc:i < n8:=by simpa using hc
    obtain ⟨u,d,ob,od,cn,cb,q1,q2,q3,q4,q5,q6,q7,hS'⟩:=hS.step hGl (dig_digs Y) hO.ud (by omega) (by omega)
    refine (h8.le (l7.trans (l9.trans l10))).rdq i rfl q1 ?_
    have w13:i64.wrap ((j:Int) + i)=((j + i:Nat):Int):=by rw [i64w (by omega)]; omega
    have w14:i64.wrap ((i:Int) + 1)=((i + 1:Nat):Int):=by rw [i64w (by omega)]; omega
    rw [q3,w13,w14,Int.toNat_natCast]
    refine ⟨⟨by omega,by omega⟩,_,row_getq q2,⟨by omega,by omega⟩,by simp; omega,by omega,by omega,?_⟩
    rw [q4,q5,q6]
    refine ⟨((ob:Int),(cb:Int),((i + 1:Nat):Int),u32s (fs.set (j + i) od)++tl),by (try dsimp only); omega,?_,_,_,_,_,rfl,hS'⟩
    (try dsimp only); and_intros <;> first | exact True.intro | rfl | exact row_set (by omega)
   ·have hc:i=(digs Y).length:=by simp at hc; omega
    subst hc
    obtain ⟨u,ob,od,q1,q2,q3,q4,q5,q6,q7,q8,q9,q10⟩:=hS.fin hO.ud (by omega) (by rw [hvl]; exact hz)
    rw [hvl] at q1 q6 q7 q8 q9 q10
    rw [hvs] at q10
    refine ⟨⟨by omega,by omega⟩,_,row_getq q1,⟨by omega,by omega⟩,by simp; omega,⟨by omega,by omega⟩,by simp; omega,by omega,?_⟩
    rw [q2,q3,row_set (by omega),u32w (x:=(G:Int)) (by omega)]
    generalize fs.set (j + n8) od=ks at *
    have hqset:∀H:Nat,(u32s qs).set (0 + j * 1) (.int .u32 (H:Int))=u32s (qs.set j H):=by intro H; rw [Nat.zero_add,Nat.mul_one,u32s_set]
    rw [hqset]
    refine ⟨fun h0=>?_,fun h0=>?_⟩
    ·have h0:ob=0:=by simpa using h0
     rw [h0,Nat.mul_zero,Nat.add_zero] at q10
     have hlt:=hGF.lt
     rw [Nat.add_mul,Nat.one_mul] at hlt
     refine ⟨((j:Int) - 1,u32s ks++tl,u32s (qs.set j G)),by (try dsimp only); omega,by (try dsimp only); and_intros <;> first | exact True.intro | rfl,ks,qs.set j G,rfl,rfl,?_⟩
     exact hO.next hjn q7 q6 q8 q10 (by omega) hGl
    ·have h0:ob=1:=by
      have:ob≠0:=by simpa using h0
      omega
     rw [h0,Nat.mul_one] at q10
     have hklt:∀ls:List Nat,ls.length=n + 1->Dig ls->val (ls.drop (j + n8 + 1))=0->val (ls.drop j) < 4294967296 ^ (n8 + 1):=by
      intro ls h1 h2 h3
      have a1:=val_take_drop (ls.drop j) (n8 + 1) (by simp; omega)
      rw [List.drop_drop,show j + (n8 + 1)=j + n8 + 1 from by omega,h3,Nat.mul_zero,Nat.add_zero] at a1
      have a2:=val_lt ((h2.drop j).take (n8 + 1))
      rw [List.length_take,List.length_drop,Nat.min_eq_left (by omega)] at a2
      omega
     have hk9:=hklt ks (by omega) q6 q9
     have hG1:1<=G:=by
      rcases Nat.eq_zero_or_pos G with e0 | e0
      ·subst e0; omega
      ·exact e0
     have hGs:G * Y=(G - 1) * Y + Y:=by conv=>lhs; rw [← Nat.sub_add_cancel hG1,Nat.add_mul,Nat.one_mul]
     have hGt:=hGF.gt
     have hw20:u32.wrap ((G:Int) - 1)=((G - 1:Nat):Int):=by rw [u32w (by omega)]; omega
     refine ⟨⟨by omega,by omega⟩,(G:Int),by rw [Nat.zero_add,Nat.mul_one,u32s_get (by simp; omega),List.getElem_set_self],⟨by omega,by omega⟩,by simp; omega,?_⟩
     have hqset2:(u32s (qs.set j G)).set (0 + j * 1) (.int .u32 ((G - 1:Nat):Int))=u32s (qs.set j (G - 1)):=by rw [Nat.zero_add,Nat.mul_one,u32s_set,List.set_set]
     rw [hw20,hqset2]
     refine ⟨fun z V'=>∃(c' i2:Nat) (gs:List Nat),z=((c':Int),(i2:Int),u32s gs++tl)/\AddI ks (digs Y) j i2 c' gs,fun z=>n8 - z.2.1.toNat,
      ⟨(0,0,u32s ks++tl),by (try dsimp only); and_intros <;> first | exact True.intro | rfl,0,0,ks,rfl,by omega,by omega,rfl,q6,rfl,rfl,by simp⟩,?_⟩
     rintro _ V11 l11 ⟨c',i2,gs,rfl,hA⟩
     dsimp only
     simp only [Int.toNat_natCast]
     have hi2:=hA.hi
     have hgl:=hA.len
     refine ⟨by trivial,fun hc=>?_,fun hc=>?_⟩
     ·have hc:i2 < n8:=by simpa using hc
      obtain ⟨u,d,od,cn,cb,r1,r2,r3,r4,r5,hA'⟩:=hA.step (dig_digs Y) q6 (by omega) (by omega)
      refine (h8.le (l7.trans (l9.trans (l10.trans l11)))).rdq i2 rfl r1 ?_
      have w15:i64.wrap ((j:Int) + i2)=((j + i2:Nat):Int):=by rw [i64w (by omega)]; omega
      have w16:i64.wrap ((i2:Int) + 1)=((i2 + 1:Nat):Int):=by rw [i64w (by omega)]; omega
      rw [w15,w16,Int.toNat_natCast]
      refine ⟨⟨by omega,by omega⟩,_,row_getq r2,⟨by omega,by omega⟩,by simp; omega,by omega,?_⟩
      rw [r3,r4,r5]
      refine ⟨((cb:Int),((i2 + 1:Nat):Int),u32s (gs.set (j + i2) od)++tl),by (try dsimp only); omega,?_,_,_,_,rfl,hA'⟩
      (try dsimp only); and_intros <;> first | exact True.intro | rfl | exact row_set (by omega)
     ·have hc:i2=(digs Y).length:=by simp at hc; omega
      subst hc
      obtain ⟨u,od,kp,r1,r2,r3,r4,r5,r6,r7,r8⟩:=hA.fin q6 (by omega) (by rw [hvl]; exact q9)
      rw [hvl] at r1 r4 r5 r6 r7 r8
      rw [hvs] at r8
      refine ⟨⟨by omega,by omega⟩,_,row_getq r1,⟨by omega,by omega⟩,by simp; omega,?_⟩
      rw [r2,row_set (by omega)]
      have hh9:=hklt _ (by omega) r4 r7
      generalize gs.set (j + n8) od=hs at *
      have hkp1:kp=1:=by
       rcases Nat.eq_zero_or_pos kp with e0 | e0
       ·rw [e0,Nat.mul_zero] at r8; omega
       ·omega
      rw [hkp1,Nat.mul_one] at r8
      refine ⟨((j:Int) - 1,u32s hs++tl,u32s (qs.set j (G - 1))),by (try dsimp only); omega,by (try dsimp only); and_intros <;> first | exact True.intro | rfl,hs,qs.set j (G - 1),rfl,rfl,?_⟩
      exact hO.next hjn (by omega) r4 (by rw [r6,q8]) (by omega) (by omega) (by omega)
 ·have h3:j=-1:=by simp at h3; omega
  subst h3
  obtain ⟨hq,hr⟩:=hO.done hX.symm hY.symm (by omega) hDK.top
  have hdq:=hO.qd
  have hdu:=hO.ud
  intro V8 l8 bk1 bk2 hb1 hb2 J
  have hru:RD V8 (some ⟨bk2,0,none⟩) n8 c7 (us.take n8):=by
   refine ⟨by simp; omega,by omega,fun i v hv=>⟨_,rfl,?_⟩,hdu.take n8,fun e0=>nomatch e0⟩
   rw [add_zero']
   refine blk_at hb2 ?_
   rw [u32s_take,List.getElem?_take] at hv
   split at hv
   ·rename_i hlt
    rw [List.getElem?_append_left (by simp; omega)]; exact hv
   ·cases hv
  refine ⟨⟨by omega,by omega⟩,fun V9 l9=>?_⟩
  refine (c_nat_trim (RD.blk (ds:=qs) hb1 hdq (n:=n + 1 - n8) (c:=n + 1 - n8) (by omega) (Nat.le_refl _) |>.le l9) (by omega)).mono ?_
  rintro r V10 l10 ⟨k1,rfl,g1⟩
  refine ⟨_,_,_,rfl,fun V11 l11=>?_⟩
  rw [Int.toNat_natCast]
  refine (c_nat_Shr (hru.le (l9.trans (l10.trans l11))) (by simp; omega) s (by omega)).mono ?_
  rintro r V12 l12 ⟨p2,n2,c2,rfl,g2⟩
  refine ⟨_,_,_,rfl,fun V13 l13=>⟨_,_,_,_,_,_,rfl,?_,?_⟩⟩
  ·rw [trimD_eq hdq] at g1
   unfold RN
   rw [← hq]; exact g1.le (l11.trans (l12.trans l13))
  ·rw [hr] at g2
   exact g2.le l13
end Go.Proofs.Tryz
/- Contracts of package nat: DivMod. -/
namespace Go.Proofs.Tryz
open Go.Eng Go.Big
theorem c_nat_DivMod {V:View} {p q:OA} {n c m e:Nat} {xa xb:List Nat} (ha:RD V p n c xa) (hb:RD V q m e xb) (hm:xa.length<=1099511627776) (hn:xb.length<=1099511627776) (h0:val xb≠0) :
  Acts prog 193 #[.slice p n c,.slice q m e] V fun r V'=>∃p1 n1 c1 p2 n2 c2,r=.tuple #[.slice p1 n1 c1,.slice p2 n2 c2,.bool true]/\RN V' p1 n1 c1 (val xa / val xb)/\RN V' p2 n2 c2 (val xa % val xb):=by
 have la:=digs_val_len ha.dig
 have lb:=digs_val_len hb.dig
 refine vc_nat_DivMod p n c q m e V _ fun V1 l1=>(c_nat_trim (ha.le l1) (by omega)).mono ?_
 rintro r V2 l2 ⟨n,rfl,hx⟩
 rw [trimD_eq ha.dig] at hx
 refine ⟨_,_,_,rfl,fun V3 l3=>(c_nat_trim (hb.le (l1.trans (l2.trans l3))) (by omega)).mono ?_⟩
 rintro r V4 l4 ⟨m,rfl,hy⟩
 rw [trimD_eq hb.dig] at hy
 replace hx:=hx.le (l3.trans l4)
 generalize val xa=x at *
 generalize val xb=y at *
 have hlx:=hx.len
 have hly:=hy.len
 refine ⟨_,_,_,rfl,fun h1=>?_,fun h1 V6 l6=>(c_nat_Cmp (hx.le l6) (hy.le l6) (by omega) (by omega)).mono ?_⟩
 ·exfalso
  have:digs y=[]:=List.length_eq_zero_iff.1 (by simp at h1; omega)
  exact h0 (digs_eq_nil.1 this)
 rintro r V7 l7 rfl
 rw [val_digs,val_digs]
 replace hx:=hx.le (l6.trans l7)
 replace hy:=hy.le (l6.trans l7)
 refine ⟨_,rfl,fun h2 V8 l8=>(c_slices_Clone (hx.le l8) (by omega)).mono ?_,fun h2=>⟨fun h3=>?_,fun h3 V8 l8=>?_⟩⟩
 ·rintro r V9 l9 ⟨p4,n4,c4,rfl,g1⟩
  have h2:x < y:=by simpa [cmpN_neg] using h2
  refine ⟨_,_,_,rfl,fun V10 l10=>⟨_,_,_,_,_,_,rfl,?_,?_⟩⟩
  ·rw [Nat.div_eq_of_lt h2]; exact RD.nil
  ·rw [Nat.mod_eq_of_lt h2]; exact g1.le l10
 ·have h3:m=1:=by simp at h3; omega
  subst h3
  refine hy.rd0 0 rfl (by omega) fun V8 l8=>?_
  have hd:=(dig_digs y).get (i:=0) (by omega)
  have hyd:y=(digs y)[0]'(by omega):=by
   have e:=val_split (digs y) 0 (by omega)
   rw [val_digs,List.drop_of_length_le (by omega)] at e
   simpa using e
  rw [← hyd] at hd ⊢
  refine (c_nat_short (hx.le l8) (by omega) y h0 hd).mono ?_
  rintro r V9 l9 ⟨p4,n4,c4,rfl,g1⟩
  rw [val_digs] at g1 ⊢
  have hmod:x % y < y:=Nat.mod_lt _ (by omega)
  refine ⟨_,_,_,_,rfl,fun V10 l10=>?_⟩
  rw [u64w (by omega)]
  refine (c_nat_FromUint _ (by omega) (by omega)).mono ?_
  rintro r V11 l11 ⟨p5,n5,c5,rfl,g2⟩
  exact ⟨_,_,_,rfl,fun V12 l12=>⟨_,_,_,_,_,_,rfl,g1.le (l10.trans (l11.trans l12)),g2.le l12⟩⟩
 ·have h2:y<=x:=by simpa [← Int.not_lt,cmpN_neg] using h2
  have hm2:2<=m:=by
   have:¬ (m:Int)=1:=by simpa using h3
   have:digs y≠[]:=fun e=>h0 (digs_eq_nil.1 e)
   have:(digs y).length≠0:=fun e=>this (List.length_eq_zero_iff.1 e)
   omega
  refine (c_nat_long (hx.le l8) (hy.le l8) (by omega) hm2 h2).mono ?_
  rintro r V9 l9 ⟨p4,n4,c4,p5,n5,c5,rfl,g1,g2⟩
  exact ⟨_,_,_,_,_,_,rfl,fun V10 l10=>⟨_,_,_,_,_,_,rfl,g1.le l10,g2.le l10⟩⟩
theorem gcd_step (x y:Nat):Nat.gcd y (x % y)=Nat.gcd x y:=by
 rw [Nat.gcd_comm x y,Nat.gcd_rec y x,Nat.gcd_comm]
theorem c_nat_Gcd {V:View} {p q:OA} {n c m e:Nat} {xa xb:List Nat} (ha:RD V p n c xa) (hb:RD V q m e xb) (hm:xa.length<=1099511627776) (hn:xb.length<=1099511627776) :
  Acts prog 192 #[.slice p n c,.slice q m e] V fun r V'=>∃p1 n1 c1,r=.slice p1 n1 c1/\RN V' p1 n1 c1 (Nat.gcd (val xa) (val xb)):=by
 have la:=digs_val_len ha.dig
 have lb:=digs_val_len hb.dig
 refine vc_nat_Gcd p n c q m e V _ fun V1 l1=>(c_nat_Norm (ha.le l1) hm).mono ?_
 rintro r V2 l2 ⟨p1,n1,c1,rfl,hx⟩
 refine ⟨_,_,_,rfl,fun V3 l3=>(c_nat_Norm (hb.le (l1.trans (l2.trans l3))) hn).mono ?_⟩
 rintro r V4 l4 ⟨q1,m1,e1,rfl,hy⟩
 replace hx:=hx.le (l3.trans l4)
 refine ⟨_,_,_,rfl,fun z k V'=>∃x y:Nat,RN V' z.1 z.2.1 z.2.2.1 x/\RN V' z.2.2.2.1 z.2.2.2.2.1 z.2.2.2.2.2 y/\Nat.gcd x y=Nat.gcd (val xa) (val xb)/\k=y/\(digs x).length<=1099511627776/\(digs y).length<=1099511627776,
  ⟨(p1,n1,c1,q1,m1,e1),val xb,by (try dsimp only); and_intros <;> trivial,val xa,val xb,hx,hy,rfl,rfl,by omega,by omega⟩,?_⟩
 rintro ⟨p,n,c,q,m,e⟩ k V5 l5 ⟨x,y,hx,hy,hg,hk,hx1,hy1⟩
 dsimp only at hx hy ⊢
 have hlx:=hx.len
 have hly:=hy.len
 rw [← hg]
 have stop:m=0->y=0:=fun h=>digs_eq_nil.1 (List.length_eq_zero_iff.1 (by omega))
 have more:∀V7:View,V5.Le V7->m≠0->Acts prog 193 #[.slice p n c,.slice q m e] V7 fun r V8=>∃p1 n1 c1 p2 n2 c2,r=.tuple #[.slice p1 n1 c1,.slice p2 n2 c2,.bool true]/\RN V8 p2 n2 c2 (x % y)/\x % y < y/\Nat.gcd y (x % y)=Nat.gcd (val xa) (val xb)/\(digs (x % y)).length<=1099511627776/\V7.Le V8:=by
  intro V7 l7 h
  have hy0:y≠0:=by
   intro e0; subst e0
   rw [digs_zero] at hly; simp at hly; omega
  have hlt:x % y < y:=Nat.mod_lt _ (by omega)
  refine (c_nat_DivMod (hx.le l7) (hy.le l7) hx1 hy1 (by rw [val_digs]; exact hy0)).mono ?_
  rintro r V8 l8 ⟨p4,n4,c4,p5,n5,c5,rfl,g1,g2⟩
  rw [val_digs,val_digs] at g2
  exact ⟨_,_,_,_,_,_,rfl,g2,hlt,by rw [gcd_step,hg],Nat.le_trans (digs_len_mono (by omega)) hy1,l8⟩
 refine ⟨by trivial,fun h1=>⟨fun h2 V6 l6=>?_,fun h2 V7 l7=>(more V7 l7 ?_).mono ?_⟩,fun h1=>⟨fun h1'=>⟨fun h2 V6 l6=>?_,fun h2 V7 l7=>(more V7 l7 ?_).mono ?_⟩,fun h1' V12 l12=>?_⟩⟩
 ·rw [stop (by simp at h2; omega),Nat.gcd_zero_right]
  rw [stop (by simp at h2; omega)] at hg
  exact ⟨_,_,_,rfl,hx.le l6⟩
 ·simp at h2; omega
 ·rintro r V8 l8 ⟨p4,n4,c4,p5,n5,c5,rfl,g2,hlt,hg',hl',l9⟩
  exact ⟨_,_,_,_,_,_,_,rfl,(q,m,e,p5,n5,c5),x % y,(by omega),by (try dsimp only); and_intros <;> trivial,y,x % y,hy.le (l7.trans l9),g2,hg'.trans hg.symm,rfl,hy1,hl'⟩
 ·rw [stop (by simp at h2; omega),Nat.gcd_zero_right]
  exact ⟨_,_,_,rfl,hx.le l6⟩
 ·simp at h2; omega
 ·rintro r V8 l8 ⟨p4,n4,c4,p5,n5,c5,rfl,g2,hlt,hg',hl',l9⟩
  exact ⟨_,_,_,_,_,_,_,rfl,(q,m,e,p5,n5,c5),x % y,(by omega),by (try dsimp only); and_intros <;> trivial,y,x % y,hy.le (l7.trans l9),g2,hg'.trans hg.symm,rfl,hy1,hl'⟩
 ·have hn2:n<=2:=by simp at h1; omega
  have hm2:m<=2:=by simp at h1'; omega
  have hx2:x < 18446744073709551616:=(digs_len_le (k:=2)).1 (by omega)
  have hy2:y < 18446744073709551616:=(digs_len_le (k:=2)).1 (by omega)
  refine (c_nat_Uint (hx.le l12) (by omega)).mono ?_
  rintro r V13 l13 rfl
  rw [val_digs,if_pos hx2]
  refine ⟨_,_,rfl,fun V14 l14=>(c_nat_Uint (hy.le (l12.trans (l13.trans l14))) (by omega)).mono ?_⟩
  rintro r V15 l15 rfl
  rw [val_digs,if_pos hy2]
  refine ⟨_,_,rfl,fun z V'=>∃a b:Nat,z=((a:Int),(b:Int))/\Nat.gcd a b=Nat.gcd x y/\a < 18446744073709551616/\b < 18446744073709551616,fun z=>z.2.toNat,
   ⟨((x:Int),(y:Int)),by (try dsimp only); and_intros <;> trivial,x,y,rfl,rfl,hx2,hy2⟩,?_⟩
  rintro _ V16 l16 ⟨a,b,rfl,hab,ha2,hb2⟩
  dsimp only
  refine ⟨by trivial,fun h3=>?_,fun h3 V17 l17=>?_⟩
  ·have h3:b≠0:=by rw [bne_iff_ne] at h3; omega
   have hlt:a % b < b:=Nat.mod_lt _ (by omega)
   have e4:(a:Int).tmod (b:Int)=((a % b:Nat):Int):=by rw [Int.tmod_eq_emod_of_nonneg (by omega),← Int.natCast_emod]
   rw [e4]
   exact ⟨by omega,((b:Int),((a % b:Nat):Int)),by (try dsimp only); rw [Int.toNat_natCast,Int.toNat_natCast]; exact hlt,by (try dsimp only); and_intros <;> trivial,b,a % b,rfl,by rw [gcd_step,hab],hb2,Nat.lt_trans hlt hb2⟩
  ·have h3:b=0:=by rw [bne_eq_false_iff_eq] at h3; omega
   subst h3
   rw [Nat.gcd_zero_right] at hab
   refine (c_nat_FromUint _ (by omega) (by omega)).mono ?_
   rintro r V18 l18 ⟨p4,n4,c4,rfl,g1⟩
   refine ⟨_,_,_,rfl,fun V19 l19=>⟨_,_,_,rfl,?_⟩⟩
   rw [← hab]
   exact g1.le l19
end Go.Proofs.Tryz
/- By program: the conditions of the functions, from their loaded code. -/
namespace Go.Proofs.Tryz
open Go.Eng
open Go.Value renaming int→I,pointer→P,slice→S,agg→A,bool→B,tuple→T
open Go.IntKind renaming i64→J,u64→U,u32→W
set_option maxRecDepth 100000
theorem vc_integer_Norm (b:Bool) (e:OA) (f g:Nat) (V:View) (R:VR) (h:(Ca V 188 #[S e f g] fun m i=>∃c a d,m=S c a d/\((b=true->(Rt i R (A #[B (decide ((a:Int) > (0:Int))),S c a d])))/\(b=false->(Rt i R (A #[B false,S c a d])))))):
 Acts prog 187 #[A #[B b,S e f g]] V R:=
 fd (LF:=LF0) (RF:=[1000010]) [] [] func187 h
theorem vc_integer_Normal (a:Bool) (e:OA) (b f:Nat) (V:View) (R:VR) (h:(Ca V 231 #[S e b f] fun l c=>∃d,l=B d/\((d=true->(((!a)=true->(Rt c R (B true)))/\((!a)=false->(Rt c R (B (decide ((b:Int) > (0:Int))))))))/\(d=false->(Rt c R (B false)))))):
 Acts prog 214 #[A #[B a,S e b f]] V R:=
 fd (LF:=LF0) (RF:=[1000010]) [] [] func214 h
theorem vc_integer_FromInt (a:Int) (V:View) (R:VR) (h:(((decide (a < (0:Int)))=true->(Ca V 189 #[I U (U.wrap (0 - (U.wrap a)))] fun l m=>∃b c d,l=S b c d/\(Rt m R (A #[B (decide (a < (0:Int))),S b c d]))))/\((decide (a < (0:Int)))=false->(Ca V 189 #[I U (U.wrap a)] fun n o=>∃f g i,n=S f g i/\(Rt o R (A #[B (decide (a < (0:Int))),S f g i])))))):
 Acts prog 180 #[I J a] V R:=
 fd (LF:=LF0) (RF:=[1000010]) [] [] func180 h
theorem vc_integer_Int64 (c:Bool) (e:OA) (f g:Nat) (V:View) (R:VR) (h:(Ca V 195 #[S e f g] fun x a=>∃b,∃d,x=T #[I U b,B d]/\((d=true->((c=true->(((decide (b<=(9223372036854775808:Int)))=true->(Rt a R (T #[I J (J.wrap (U.wrap (0 - b))),B true])))/\((decide (b<=(9223372036854775808:Int)))=false->((d=true->(((!c)=true->(((decide (b<=(9223372036854775807:Int)))=true->(Rt a R (T #[I J (J.wrap b),B true])))/\((decide (b<=(9223372036854775807:Int)))=false->(Rt a R (T #[I J 0,B false])))))/\((!c)=false->(Rt a R (T #[I J 0,B false])))))/\(d=false->(Rt a R (T #[I J 0,B false])))))))/\(c=false->((d=true->(((!c)=true->(((decide (b<=(9223372036854775807:Int)))=true->(Rt a R (T #[I J (J.wrap b),B true])))/\((decide (b<=(9223372036854775807:Int)))=false->(Rt a R (T #[I J 0,B false])))))/\((!c)=false->(Rt a R (T #[I J 0,B false])))))/\(d=false->(Rt a R (T #[I J 0,B false])))))))/\(d=false->((d=true->(((!c)=true->(((decide (b<=(9223372036854775807:Int)))=true->(Rt a R (T #[I J (J.wrap b),B true])))/\((decide (b<=(9223372036854775807:Int)))=false->(Rt a R (T #[I J 0,B false])))))/\((!c)=false->(Rt a R (T #[I J 0,B false])))))/\(d=false->(Rt a R (T #[I J 0,B false])))))))):
 Acts prog 194 #[A #[B c,S e f g]] V R:=
 fd (LF:=LF0) (RF:=[1000010]) [] [] func194 h
theorem vc_integer_Sign (a:Bool) (d:OA) (e f:Nat) (V:View) (R:VR) (h:(Ca V 190 #[S d e f] fun l b=>∃c,l=I J c/\(((c == (0:Int))=true->(Rt b R (I J 0)))/\((c == (0:Int))=false->((a=true->(Rt b R (I J (-1))))/\(a=false->(Rt b R (I J 1)))))))):
 Acts prog 191 #[A #[B a,S d e f]] V R:=
 fd (LF:=LF0) (RF:=[1000010]) [] [] func191 h
theorem vc_integer_Neg (a:Bool) (b:OA) (c d:Nat) (V:View) (R:VR) (h:(Ca V 187 #[A #[B (!a),S b c d]] fun l m=>∃e,∃f g i,l=A #[B e,S f g i]/\(Rt m R (A #[B e,S f g i])))):
 Acts prog 197 #[A #[B a,S b c d]] V R:=
 fd (LF:=LF0) (RF:=[1000010]) [] [] func197 h
theorem vc_integer_signed (b:Bool) (c:OA) (a d:Nat) (V:View) (R:VR) (h:((b=true->(Rt V R (A #[B (decide ((a:Int) > (0:Int))),S c a d])))/\(b=false->(Rt V R (A #[B false,S c a d]))))):
 Acts prog 184 #[B b,S c a d] V R:=
 fd (LF:=LF0) (RF:=[1000010]) [] [] func184 h
theorem vc_integer_Add (a:Bool) (b:OA) (c d:Nat) (e:Bool) (f:OA) (g i:Nat) (V:View) (R:VR) (h:(((a == e)=true->(Ca V 185 #[S b c d,S f g i] fun b1 b2=>∃l m n,b1=S l m n/\(Ca b2 184 #[B a,S l m n] fun b3 b4=>∃o,∃p q r,b3=A #[B o,S p q r]/\(Rt b4 R (A #[B o,S p q r])))))/\((a == e)=false->(Ca V 186 #[S b c d,S f g i] fun b5 t=>∃u w x,∃k,b5=T #[S u w x,B k]/\((k=true->(Ca t 184 #[B a,S u w x] fun b6 b7=>∃y,∃z a0 a1,b6=A #[B y,S z a0 a1]/\(Rt b7 R (A #[B y,S z a0 a1]))))/\(k=false->(Ca t 186 #[S f g i,S b c d] fun b8 b9=>∃a3 a4 a5,∃c0,b8=T #[S a3 a4 a5,B c0]/\(Ca b9 184 #[B e,S a3 a4 a5] fun c1 c2=>∃a6,∃a7 a8 a9,c1=A #[B a6,S a7 a8 a9]/\(Rt c2 R (A #[B a6,S a7 a8 a9])))))))))):
 Acts prog 136 #[A #[B a,S b c d],A #[B e,S f g i]] V R:=
 fd (LF:=LF0) (RF:=[1000010]) [] [] func136 h
theorem vc_integer_Mul (a:Bool) (b:OA) (c d:Nat) (e:Bool) (f:OA) (g i:Nat) (V:View) (R:VR) (h:(Ca V 141 #[S b c d,S f g i] fun s t=>∃k l m,s=S k l m/\(Ca t 184 #[B (!(a == e)),S k l m] fun u w=>∃n,∃o p q,u=A #[B n,S o p q]/\(Rt w R (A #[B n,S o p q]))))):
 Acts prog 137 #[A #[B a,S b c d],A #[B e,S f g i]] V R:=
 fd (LF:=LF0) (RF:=[1000010]) [] [] func137 h
end Go.Proofs.Tryz
/- Contracts of package integer. -/
namespace Go.Big
/-- The value of a sign and digits. -/
def ival (b:Bool) (ds:List Nat):Int:=if b then -(val ds:Int) else val ds
end Go.Big
namespace Go.Eng
open Go.Big
/-- An integer in normal form. -/
def RI (V:View) (v:Value) (z:Int):Prop:=∃p n c,v=.agg #[.bool (decide (z < 0)),.slice p n c]/\RD V p n c (digs z.natAbs)
theorem RI.le {V V':View} {v:Value} {z:Int} (h:RI V v z) (l:V.Le V'):RI V' v z:=by
 obtain ⟨p,n,c,e,h⟩:=h; exact ⟨p,n,c,e,h.le l⟩
theorem RI.mk {V:View} {b:Bool} {p:OA} {n c:Nat} {z:Int} (hb:b=decide (z < 0)) (h:RD V p n c (digs z.natAbs)):RI V (.agg #[.bool b,.slice p n c]) z:=⟨p,n,c,by rw [hb],h⟩
theorem RI.zero {V:View}:RI V (.agg #[.bool false,.slice none 0 0]) 0:=⟨_,_,_,rfl,RD.nil⟩
end Go.Eng
namespace Go.Proofs.Tryz
open Go.Eng Go.Big
theorem blen_zero {n:Nat}:blen n=0↔n=0:=by
 unfold blen; split <;> simp_all
theorem ival_natAbs (b:Bool) (ds:List Nat):(ival b ds).natAbs=val ds:=by unfold ival; cases b <;> simp
theorem ival_neg (b:Bool) (ds:List Nat):ival b ds < 0↔b=true/\val ds≠0:=by
 unfold ival; cases b
 ·simp
 ·simp; omega
theorem ival_digs (z:Int):ival (decide (z < 0)) (digs z.natAbs)=z:=by
 unfold ival; rw [val_digs]
 by_cases h:z < 0
 ·rw [decide_eq_true h,if_pos rfl]; omega
 ·rw [decide_eq_false h,if_neg (by decide)]; omega
theorem ival_not (b:Bool) (ds:List Nat):ival (!b) ds=-ival b ds:=by unfold ival; cases b <;> simp
theorem ival_false (ds:List Nat):ival false ds=val ds:=rfl
theorem len_pos_digs {x n:Nat} (h:n=(digs x).length):0 < n↔x≠0:=by
 rw [h]
 constructor
 ·intro h1 h2; subst h2; simp at h1
 ·intro h1
  rcases Nat.eq_zero_or_pos (digs x).length with e | e
  ·exact absurd (digs_eq_nil.1 (List.length_eq_zero_iff.1 e)) h1
  ·exact e
theorem c_integer_signed {V:View} (b:Bool) {p:OA} {n c x:Nat} (h:RN V p n c x) :
  Acts prog 184 #[.bool b,.slice p n c] V fun r V'=>RI V' r (if b then -(x:Int) else x):=by
 have hp:=len_pos_digs h.len
 refine vc_integer_signed b p n c V _ ⟨fun h0 V1 l1=>?_,fun h0 V1 l1=>?_⟩
 ·rw [if_pos h0]
  refine RI.mk ?_ ?_
  ·rw [Bool.eq_iff_iff,decide_eq_true_eq,decide_eq_true_eq]
   omega
  ·rw [Int.natAbs_neg,Int.natAbs_natCast]; exact h.le l1
 ·rw [h0,if_neg (by decide)]
  refine RI.mk ?_ ?_
  ·symm; rw [decide_eq_false_iff_not]; omega
  ·rw [Int.natAbs_natCast]; exact h.le l1
theorem c_integer_Norm {V:View} (b:Bool) {p:OA} {n c:Nat} {ds:List Nat} (h:RD V p n c ds) (hm:ds.length<=1099511627776) :
  Acts prog 187 #[.agg #[.bool b,.slice p n c]] V fun r V'=>RI V' r (ival b ds):=by
 refine vc_integer_Norm b p n c V _ fun V1 l1=>(c_nat_Norm (h.le l1) hm).mono ?_
 rintro r V2 l2 ⟨p1,n1,c1,rfl,h1⟩
 have hp:=len_pos_digs h1.len
 have hn:=ival_neg b ds
 refine ⟨_,_,_,rfl,fun h0 V3 l3=>RI.mk ?_ ?_,fun h0 V3 l3=>RI.mk ?_ ?_⟩
 ·rw [Bool.eq_iff_iff,decide_eq_true_eq,decide_eq_true_eq,hn]
  simp [h0]; omega
 ·rw [ival_natAbs]; exact h1.le l3
 ·symm; rw [decide_eq_false_iff_not,hn]; simp [h0]
 ·rw [ival_natAbs]; exact h1.le l3
/-- A sign and digits in normal form. -/
def NrmI (b:Bool) (ds:List Nat):Bool:=decide (digs (val ds)=ds) && (!b || decide (ds≠[]))
theorem c_integer_Normal {V:View} (b:Bool) {p:OA} {n c:Nat} {ds:List Nat} (h:RD V p n c ds) (hm:ds.length<=1099511627776) :
  Acts prog 214 #[.agg #[.bool b,.slice p n c]] V fun r V'=>r=.bool (NrmI b ds):=by
 refine vc_integer_Normal b p n c V _ fun V1 l1=>(c_nat_Normal (h.le l1) hm).mono ?_
 rintro r V2 l2 rfl
 refine ⟨_,rfl,fun h0=>⟨fun h1 V3 l3=>?_,fun h1 V3 l3=>?_⟩,fun h0 V3 l3=>?_⟩
 ·simp [NrmI,h0]; simp at h1; simp [h1]
 ·have hl:=h.len
  simp [NrmI,h0]; simp at h1; simp [h1]
  rw [Bool.eq_iff_iff,decide_eq_true_eq]
  simp
  constructor
  ·intro h2 h3; subst h3; simp at hl; omega
  ·intro h2
   rcases Nat.eq_zero_or_pos ds.length with e | e
   ·exact absurd (List.length_eq_zero_iff.1 e) h2
   ·omega
 ·simp [NrmI,h0]
theorem c_integer_FromInt {V:View} (n:Int) (h0:-9223372036854775808<=n) (h1:n<=9223372036854775807) :
  Acts prog 180 #[.int .i64 n] V fun r V'=>RI V' r n:=by
 refine vc_integer_FromInt n V _ ⟨fun h2 V1 l1=>?_,fun h2 V1 l1=>?_⟩
 ·have h2:n < 0:=by simpa using h2
  have e:u64.wrap (0 - u64.wrap n)=-n:=by rw [u64m,u64m]; omega
  rw [e]
  refine (c_nat_FromUint _ (by omega) (by omega)).mono ?_
  rintro r V2 l2 ⟨p1,n1,c1,rfl,g1⟩
  refine ⟨_,_,_,rfl,fun V3 l3=>⟨_,_,_,rfl,?_⟩⟩
  rw [show n.natAbs=(-n).toNat from by omega]; exact g1.le l3
 ·have h2:0<=n:=by simpa using h2
  rw [u64w (by omega)]
  refine (c_nat_FromUint _ (by omega) (by omega)).mono ?_
  rintro r V2 l2 ⟨p1,n1,c1,rfl,g1⟩
  refine ⟨_,_,_,rfl,fun V3 l3=>⟨_,_,_,rfl,?_⟩⟩
  rw [show n.natAbs=n.toNat from by omega]; exact g1.le l3
theorem c_integer_Sign {V:View} (b:Bool) {p:OA} {n c:Nat} {ds:List Nat} (h:RD V p n c ds) (hm:ds.length<=1099511627776) :
  Acts prog 191 #[.agg #[.bool b,.slice p n c]] V fun r V'=>r=.int .i64 (ival b ds).sign:=by
 refine vc_integer_Sign b p n c V _ fun V1 l1=>(c_nat_Bits (h.le l1) hm).mono ?_
 rintro r V2 l2 rfl
 have hz:(ival b ds)=0↔val ds=0:=by rw [← ival_natAbs b ds]; omega
 have hn:=ival_neg b ds
 refine ⟨_,rfl,fun h0 V3 l3=>?_,fun h0=>⟨fun h1 V3 l3=>?_,fun h1 V3 l3=>?_⟩⟩
 ·have:val ds=0:=blen_zero.1 (by simp at h0; omega)
  rw [hz.2 this]; rfl
 ·have:val ds≠0:=fun e=>by simp [blen_zero.2 e] at h0
  rw [Int.sign_eq_neg_one_of_neg (hn.2 ⟨h1,this⟩)]
 ·have:val ds≠0:=fun e=>by simp [blen_zero.2 e] at h0
  have:0 < ival b ds:=by
   have:=hz
   have:¬ ival b ds < 0:=by rw [hn]; simp [h1]
   omega
  rw [Int.sign_eq_one_of_pos this]
theorem c_integer_Neg {V:View} (b:Bool) {p:OA} {n c:Nat} {ds:List Nat} (h:RD V p n c ds) (hm:ds.length<=1099511627776) :
  Acts prog 197 #[.agg #[.bool b,.slice p n c]] V fun r V'=>RI V' r (-ival b ds):=by
 refine vc_integer_Neg b p n c V _ fun V1 l1=>(c_integer_Norm (!b) (h.le l1) hm).mono ?_
 rintro r V2 l2 ⟨p1,n1,c1,rfl,h1⟩
 rw [ival_not] at h1 ⊢
 exact ⟨_,_,_,_,rfl,fun V3 l3=>⟨_,_,_,rfl,h1.le l3⟩⟩
theorem c_integer_Mul {V:View} (b1 b2:Bool) {p q:OA} {n c m e:Nat} {xa xb:List Nat} (ha:RD V p n c xa) (hb:RD V q m e xb) (hm:xa.length + xb.length<=1099511627776) :
  Acts prog 137 #[.agg #[.bool b1,.slice p n c],.agg #[.bool b2,.slice q m e]] V fun r V'=>RI V' r (ival b1 xa * ival b2 xb):=by
 refine vc_integer_Mul b1 p n c b2 q m e V _ fun V1 l1=>(c_nat_Mul (ha.le l1) (hb.le l1) hm).mono ?_
 rintro r V2 l2 ⟨p1,n1,c1,rfl,h1⟩
 refine ⟨_,_,_,rfl,fun V3 l3=>(c_integer_signed _ (h1.le l3)).mono ?_⟩
 rintro r V4 l4 ⟨p2,n2,c2,rfl,h2⟩
 have e1:(if (!(b1 == b2))=true then -((val xa * val xb:Nat):Int) else ((val xa * val xb:Nat):Int))=ival b1 xa * ival b2 xb:=by
  unfold ival; cases b1 <;> cases b2 <;> simp [Int.neg_mul,Int.mul_neg]
 rw [e1] at h2 ⊢
 exact ⟨_,_,_,_,rfl,fun V5 l5=>⟨_,_,_,rfl,h2.le l5⟩⟩
theorem c_integer_Add {V:View} (b1 b2:Bool) {p q:OA} {n c m e:Nat} {xa xb:List Nat} (ha:RD V p n c xa) (hb:RD V q m e xb) (hm:xa.length<=1099511627776) (hn:xb.length<=1099511627776) :
  Acts prog 136 #[.agg #[.bool b1,.slice p n c],.agg #[.bool b2,.slice q m e]] V fun r V'=>RI V' r (ival b1 xa + ival b2 xb):=by
 have fin:∀{b:Bool} {x:Nat} {V1:View} {p1:OA} {n1 c1:Nat},RN V1 p1 n1 c1 x->(if b then -(x:Int) else x)=ival b1 xa + ival b2 xb ->
   Acts prog 184 #[.bool b,.slice p1 n1 c1] V1 fun r V'=>∃(b1_:Bool) (p2_:OA) (n2_ c2_:Nat),r=.agg #[.bool b1_,.slice p2_ n2_ c2_]/\∀V3:View,V'.Le V3->RI V3 (.agg #[.bool b1_,.slice p2_ n2_ c2_]) (ival b1 xa + ival b2 xb):=by
  intro b x V1 p1 n1 c1 h he
  refine (c_integer_signed b h).mono ?_
  rintro r V4 l4 ⟨p2,n2,c2,rfl,h2⟩
  rw [he] at h2 ⊢
  exact ⟨_,_,_,_,rfl,fun V5 l5=>⟨_,_,_,rfl,h2.le l5⟩⟩
 refine vc_integer_Add b1 p n c b2 q m e V _ ⟨fun h0 V1 l1=>(c_nat_Add (ha.le l1) (hb.le l1) hm hn).mono ?_,fun h0 V1 l1=>(c_nat_Sub (ha.le l1) (hb.le l1) hm hn).mono ?_⟩
 ·rintro r V2 l2 ⟨p1,n1,c1,rfl,h1⟩
  have h0:b1=b2:=by simpa using h0
  subst h0
  exact ⟨_,_,_,rfl,fun V3 l3=>fin (h1.le l3) (by unfold ival; cases b1 <;> simp; omega)⟩
 ·rintro r V2 l2 ⟨p1,n1,c1,rfl,h1⟩
  have h0:b2=!b1:=by cases b1 <;> cases b2 <;> simp_all
  subst h0
  refine ⟨_,_,_,_,rfl,fun h2 V3 l3=>fin (h1.le l3) ?_,fun h2 V3 l3=>(c_nat_Sub (hb.le (l1.trans (l2.trans l3))) (ha.le (l1.trans (l2.trans l3))) hn hm).mono ?_⟩
  ·have h2:val xb<=val xa:=by simpa using h2
   unfold ival; cases b1 <;> simp <;> omega
  ·rintro r V4 l4 ⟨p2,n2,c2,rfl,h3⟩
   have h2:val xa < val xb:=by simpa using h2
   exact ⟨_,_,_,_,rfl,fun V5 l5=>fin (h3.le l5) (by unfold ival; cases b1 <;> simp <;> omega)⟩
theorem c_integer_Int64 {V:View} (b:Bool) {p:OA} {n c:Nat} {ds:List Nat} (h:RD V p n c ds) (hm:ds.length<=1099511627776) (hs:val ds < 4611686018427387904) :
  Acts prog 194 #[.agg #[.bool b,.slice p n c]] V fun r V'=>r=.tuple #[.int .i64 (ival b ds),.bool true]:=by
 refine vc_integer_Int64 b p n c V _ fun V1 l1=>(c_nat_Uint (h.le l1) hm).mono ?_
 rintro r V2 l2 rfl
 rw [if_pos (by omega),decide_eq_true (show val ds < 18446744073709551616 by omega)]
 refine ⟨_,_,rfl,fun _=>⟨fun h1=>⟨fun h2 V3 l3=>?_,fun h2=>?_⟩,fun h1=>⟨fun _=>⟨fun h2=>⟨fun h3 V4 l4=>?_,fun h3=>?_⟩,fun h2=>?_⟩,fun h2=>nomatch h2⟩⟩,fun h1=>nomatch h1⟩
 ·subst h1
  have e:i64.wrap (u64.wrap (0 - (val ds:Int)))=-(val ds:Int):=by
   rw [u64m,IntKind.wrap_i64]; omega
  rw [e]; rfl
 ·simp at h2; omega
 ·subst h1
  rw [i64w (by omega)]; rfl
 ·simp at h3; omega
 ·simp [h1] at h2
end Go.Proofs.Tryz
/- By program: the conditions of the functions, from their loaded code. -/
namespace Go.Proofs.Tryz
open Go.Eng
open Go.Value renaming int→I,pointer→P,slice→S,agg→A,bool→B,tuple→T
open Go.IntKind renaming i64→J,u64→U,u32→W
set_option maxRecDepth 100000
theorem vc_frac_Int (a:Int) (V:View) (R:VR) (h:(((decide (a<=(-4611686018427387904:Int)))=true->(Ca V 180 #[I J a] fun z a0=>∃d,∃e f g,z=A #[B d,S e f g]/\(∀b,a0.Le b->∀i:Nat,(b.blk i (.cells #[I W 1] 221 (0,0)))->Acts prog 140 #[A #[B d,S e f g],S (some ⟨i,0,none⟩) 1 1] b fun a1 a2=>∃k,∃l,∃m,a1=A #[I J k,I J l,P m]/\∀a7:C->Value,(Rt a2 R (A #[I J k,I J l,P m])))))/\((decide (a<=(-4611686018427387904:Int)))=false->(((decide (a ≥ (4611686018427387904:Int)))=true->(Ca V 180 #[I J a] fun a3 a4=>∃o,∃p q r,a3=A #[B o,S p q r]/\(∀c,a4.Le c->∀s:Nat,(c.blk s (.cells #[I W 1] 221 (0,0)))->Acts prog 140 #[A #[B o,S p q r],S (some ⟨s,0,none⟩) 1 1] c fun a5 a6=>∃t,∃u,∃w,a5=A #[I J t,I J u,P w]/\∀a8:C->Value,(Rt a6 R (A #[I J t,I J u,P w])))))/\((decide (a ≥ (4611686018427387904:Int)))=false->(Rt V R (A #[I J a,I J 0,P none]))))))):
 Acts prog 133 #[I J a] V R:=
 fd (LF:=LF0) (RF:=[1000010]) [] [] func133 h
theorem vc_frac_reduce (n:Bool) (f:OA) (g i:Nat) (k:OA) (l m:Nat) (V:View) (R:VR) (h:(Ca V 190 #[S k l m] fun d3 a2=>∃r,d3=I J r/\(((r == (0:Int))=true->(Rt a2 R (A #[I J 0,I J 0,P none])))/\((r == (0:Int))=false->(Ca a2 191 #[A #[B n,S f g i]] fun d4 a4=>∃s,d4=I J s/\(((s == (0:Int))=true->(Rt a4 R (A #[I J 0,I J 0,P none])))/\((s == (0:Int))=false->(Ca a4 192 #[S f g i,S k l m] fun d5 d6=>∃o p q,d5=S o p q/\(Ca d6 190 #[S o p q] fun d7 t=>∃u,d7=I J u/\(∃w:((OA) × Nat × Nat × Bool × (OA) × Nat × Nat)->VP,(((decide (u > (1:Int)))=true->(Ca t 193 #[S f g i,S o p q] fun d8 d9=>∃a6 a7 a8,∃e0 e1 e2,∃e3,d8=T #[S a6 a7 a8,S e0 e1 e2,B e3]/\(Ca d9 193 #[S k l m,S o p q] fun e4 e5=>∃a9 b0 b1,∃e6 e7 e8,∃e9,e4=T #[S a9 b0 b1,S e6 e7 e8,B e9]/\(∃b:(OA) × Nat × Nat × Bool × (OA) × Nat × Nat,(sm 0/\sm 0/\((a9:OA)=b.1)/\((b0:Nat)=b.2.1)/\((b1:Nat)=b.2.2.1)/\s3 (0:Int) (0:Int) (none:OA) ((n=b.2.2.2.1)/\((a6:OA)=b.2.2.2.2.1)/\((a7:Nat)=b.2.2.2.2.2.1)/\((a8:Nat)=b.2.2.2.2.2.2)))/\w b e5))))/\((decide (u > (1:Int)))=false->(∃d:(OA) × Nat × Nat × Bool × (OA) × Nat × Nat,(sm 0/\sm 0/\((k:OA)=d.1)/\((l:Nat)=d.2.1)/\((m:Nat)=d.2.2.1)/\s3 (0:Int) (0:Int) (none:OA) ((n=d.2.2.2.1)/\((f:OA)=d.2.2.2.2.1)/\((g:Nat)=d.2.2.2.2.2.1)/\((i:Nat)=d.2.2.2.2.2.2)))/\w d t)))/\∀(a:(OA) × Nat × Nat × Bool × (OA) × Nat × Nat) (x:View),t.Le x->w a x->(true=true/\(Ca x 190 #[S a.2.2.2.2.1 a.2.2.2.2.2.1 a.2.2.2.2.2.2] fun f0 b2=>∃y,f0=I J y/\(((decide (y<=(62:Int)))=true->(Ca b2 190 #[S a.1 a.2.1 a.2.2.1] fun f1 b3=>∃z,f1=I J z/\(((decide (z<=(62:Int)))=true->(Ca b3 194 #[A #[B a.2.2.2.1,S a.2.2.2.2.1 a.2.2.2.2.2.1 a.2.2.2.2.2.2]] fun f2 f3=>∃b4,∃f4,f2=T #[I J b4,B f4]/\(Ca f3 195 #[S a.1 a.2.1 a.2.2.1] fun f5 f6=>∃b5,∃f7,f5=T #[I U b5,B f7]/\(Rt f6 R (A #[I J b4,I J (J.wrap ((J.wrap b5)-1)),P none])))))/\((decide (z<=(62:Int)))=false->(Ca b3 187 #[A #[B a.2.2.2.1,S a.2.2.2.2.1 a.2.2.2.2.2.1 a.2.2.2.2.2.2]] fun f8 f9=>∃b7,∃b8 b9 c0,f8=A #[B b7,S b8 b9 c0]/\(Ca f9 188 #[S a.1 a.2.1 a.2.2.1] fun g0 g1=>∃c1 c2 c3,g0=S c1 c2 c3/\(∀a0,g1.Le a0->∀c4:Nat,(a0.blk c4 (.cells #[B b7,S b8 b9 c0,S c1 c2 c3] 274 (0,0)))->R (A #[I J 0,I J 0,P (some ⟨c4,0,none⟩)]) a0)))))))/\((decide (y<=(62:Int)))=false->(Ca b2 187 #[A #[B a.2.2.2.1,S a.2.2.2.2.1 a.2.2.2.2.2.1 a.2.2.2.2.2.2]] fun g2 g3=>∃c5,∃c6 c7 c8,g2=A #[B c5,S c6 c7 c8]/\(Ca g3 188 #[S a.1 a.2.1 a.2.2.1] fun g4 g5=>∃c9 d0 d1,g4=S c9 d0 d1/\(∀a1,g5.Le a1->∀d2:Nat,(a1.blk d2 (.cells #[B c5,S c6 c7 c8,S c9 d0 d1] 274 (0,0)))->R (A #[I J 0,I J 0,P (some ⟨d2,0,none⟩)]) a1))))))))))))))))):
 Acts prog 140 #[A #[B n,S f g i],S k l m] V R:=
 fd (LF:=LF0) (RF:=[1000010]) [] [(5,⟨(OA) × Nat × Nat × Bool × (OA) × Nat × Nat,false,[2,4],[4],fun e=>[(1,.c (.v (S e.1 e.2.1 e.2.2.1)))],fun e=>[(2,⟨.lit [.v (B e.2.2.2.1),.v (S e.2.2.2.2.1 e.2.2.2.2.2.1 e.2.2.2.2.2.2)],49⟩)]⟩)] func140 h
theorem vc_frac_Of (a:Bool) (b:OA) (c d:Nat) (e:OA) (f g:Nat) (V:View) (R:VR) (h:(Ca V 140 #[A #[B a,S b c d],S e f g] fun n o=>∃i,∃k,∃l,n=A #[I J i,I J k,P l]/\(Rt o R (A #[I J i,I J k,P l])))):
 Acts prog 93 #[A #[B a,S b c d,S e f g]] V R:=
 fd (LF:=LF0) (RF:=[1000010]) [] [] func93 h
theorem vc_frac_Normal (l:Bool) (b:OA) (c d:Nat) (e:OA) (a f:Nat) (V:View) (R:VR) (h:(Ca V 214 #[A #[B l,S b c d]] fun w m=>∃g,w=B g/\(((!g)=true->(Rt m R (B false)))/\((!g)=false->(Ca m 231 #[S e a f] fun x i=>∃k,x=B k/\(((!k)=true->(Rt i R (B false)))/\((!k)=false->((((a:Int) == (0:Int))=true->(Rt i R (B false)))/\(((a:Int) == (0:Int))=false->(Ca i 192 #[S b c d,S e a f] fun y z=>∃q r s,y=S q r s/\(Ca z 190 #[S q r s] fun a0 a1=>∃t,a0=I J t/\(Rt a1 R (B (t == (1:Int))))))))))))))):
 Acts prog 207 #[A #[B l,S b c d,S e a f]] V R:=
 fd (LF:=LF0) (RF:=[1000010]) [] [] func207 h
theorem vc_frac_R_Num (c t:Int) (a:OA) (V:View) (R:VR) (h:(((!a.isNone)=true->(a.isSome=true)/\(a.isSome=true)/\(∃d,∃e f g,∃b,addrAdd a 0=some b/\V.at (b.add 0) (B d)/\V.at (b.add 1) (S e f g)/\(Ca V 187 #[A #[B d,S e f g]] fun u w=>∃i,∃k l m,u=A #[B i,S k l m]/\(Rt w R (A #[B i,S k l m])))))/\((!a.isNone)=false->(Ca V 180 #[I J c] fun x y=>∃o,∃p q r,x=A #[B o,S p q r]/\(Rt y R (A #[B o,S p q r])))))):
 Acts prog 138 #[A #[I J c,I J t,P a]] V R:=
 fd (LF:=LF0) (RF:=[1000010]) [] [] func138 h
theorem vc_frac_R_Den (q b:Int) (a:OA) (V:View) (R:VR) (h:(((!a.isNone)=true->(a.isSome=true)/\(a.isSome=true)/\(∃c d e,(∃f,addrAdd a 2=some f/\V.at f (S c d e))/\(Ca V 188 #[S c d e] fun r s=>∃g i k,r=S g i k/\(Rt s R (S g i k)))))/\((!a.isNone)=false->(Ca V 189 #[I U (U.wrap (J.wrap (b + (1:Int))))] fun t u=>∃m n o,t=S m n o/\(Rt u R (S m n o)))))):
 Acts prog 139 #[A #[I J q,I J b,P a]] V R:=
 fd (LF:=LF0) (RF:=[1000010]) [] [] func139 h
theorem vc_frac_R_API (a b:Int) (c:OA) (V:View) (R:VR) (h:(Ca V 138 #[A #[I J a,I J b,P c]] fun n o=>∃d,∃e f g,n=A #[B d,S e f g]/\(Ca o 139 #[A #[I J a,I J b,P c]] fun p q=>∃i k l,p=S i k l/\(Rt q R (A #[B d,S e f g,S i k l]))))):
 Acts prog 76 #[A #[I J a,I J b,P c]] V R:=
 fd (LF:=LF0) (RF:=[1000010]) [] [] func76 h
theorem vc_frac_abs (a:Int) (V:View) (R:VR) (h:(((decide (a < (0:Int)))=true->(Rt V R (I U (U.wrap (J.wrap (0 - a))))))/\((decide (a < (0:Int)))=false->(Rt V R (I U (U.wrap a)))))):
 Acts prog 182 #[I J a] V R:=
 fd (LF:=LF0) (RF:=[1000010]) [] [] func182 h
theorem vc_frac_gcd (i k:Int) (V:View) (R:VR) (h:(∃(e:(Int × Int)->VP) (l:(Int × Int)->Nat),(∃f,((i=f.1)/\(k=f.2))/\e f V)/\∀(a:Int × Int) (b:View),V.Le b->e a b->(true=true/\(((a.2 != (0:Int))=true->(a.2≠0)/\(∃d:Int × Int,l d < l a/\((a.2=d.1)/\((a.1.tmod a.2)=d.2))/\e d b))/\((a.2 != (0:Int))=false->(Rt b R (I U a.1))))))):
 Acts prog 183 #[I U i,I U k] V R:=
 fd (LF:=LF0) (RF:=[1000010]) [(1,⟨Int × Int,false,[],[],fun g=>[(0,.c (.v (I U g.1))),(1,.c (.v (I U g.2)))],fun g=>[]⟩)] [] func183 h
theorem vc_frac_times (b c:Int) (V:View) (R:VR) (h:(Ca V 182 #[I J b] fun n o=>∃f,n=I U f/\(Ca o 182 #[I J c] fun p q=>∃g,p=I U g/\(Ca q 181 #[I U f,I U g] fun r d=>∃e,∃a,r=T #[I U e,I U a]/\(((e != (0:Int))=true->(Rt d R (T #[I J 0,B false])))/\((e != (0:Int))=false->(((decide (a ≥ (4611686018427387904:Int)))=true->(Rt d R (T #[I J 0,B false])))/\((decide (a ≥ (4611686018427387904:Int)))=false->(((!((decide (b < (0:Int))) == (decide (c < (0:Int)))))=true->(Rt d R (T #[I J (J.wrap (0 - (J.wrap a))),B true])))/\((!((decide (b < (0:Int))) == (decide (c < (0:Int)))))=false->(Rt d R (T #[I J (J.wrap a),B true])))))))))))):
 Acts prog 134 #[I J b,I J c] V R:=
 fd (LF:=LF0) (RF:=[1000010]) [] [] func134 h
theorem vc_frac_lowest (b c:Int) (V:View) (R:VR) (h:(Ca V 182 #[I J b] fun i k=>∃d,i=I U d/\(Ca k 183 #[I U d,I U (U.wrap c)] fun l e=>∃a,l=I U a/\(((decide ((J.wrap a) > (1:Int)))=true->((J.wrap a)≠0)/\((J.wrap a)≠0)/\(Rt e R (A #[I J (J.wrap (b.tdiv (J.wrap a))),I J (J.wrap ((J.wrap (c.tdiv (J.wrap a)))-1)),P none])))/\((decide ((J.wrap a) > (1:Int)))=false->(Rt e R (A #[I J b,I J (J.wrap (c - (1:Int))),P none]))))))):
 Acts prog 135 #[I J b,I J c] V R:=
 fd (LF:=LF0) (RF:=[1000010]) [] [] func135 h
theorem vc_frac_R_Add (c a:Int) (e:OA) (d b:Int) (f:OA) (V:View) (R:VR) (h:((e.isNone=true->(∃g:Unit->VP,((f.isNone=true->(((a == (0:Int))=true->(((b == (0:Int))=true->(Ca V 133 #[I J (J.wrap (c + d))] fun k9 l0=>∃x,∃y,∃z,k9=A #[I J x,I J y,P z]/\(Rt l0 R (A #[I J x,I J y,P z]))))/\((b == (0:Int))=false->(Ca V 134 #[I J c,I J (J.wrap (b + (1:Int)))] fun l1 l2=>∃i,∃p,l1=T #[I J i,B p]/\(Ca l2 134 #[I J d,I J (J.wrap (a + (1:Int)))] fun l3 l4=>∃k,∃q,l3=T #[I J k,B q]/\(Ca l4 134 #[I J (J.wrap (a + (1:Int))),I J (J.wrap (b + (1:Int)))] fun l5 l=>∃a1,∃r,l5=T #[I J a1,B r]/\((p=true->((q=true->((r=true->(((decide ((J.wrap (i + k)) > (-4611686018427387904:Int)))=true->(((decide ((J.wrap (i + k)) < (4611686018427387904:Int)))=true->(Ca l 135 #[I J (J.wrap (i + k)),I J a1] fun l6 l7=>∃a2,∃a3,∃a4,l6=A #[I J a2,I J a3,P a4]/\(Rt l7 R (A #[I J a2,I J a3,P a4]))))/\((decide ((J.wrap (i + k)) < (4611686018427387904:Int)))=false->(∃l8:Unit,(s11 0 0 0 c a e d b f (0:Int) (0:Int) (((none:OA)=none)))/\g l8 l))))/\((decide ((J.wrap (i + k)) > (-4611686018427387904:Int)))=false->(∃l9:Unit,(s11 0 0 0 c a e d b f (0:Int) (0:Int) (((none:OA)=none)))/\g l9 l))))/\(r=false->(∃m0:Unit,(s11 0 0 0 c a e d b f (0:Int) (0:Int) (((none:OA)=none)))/\g m0 l))))/\(q=false->(∃m1:Unit,(s11 0 0 0 c a e d b f (0:Int) (0:Int) (((none:OA)=none)))/\g m1 l))))/\(p=false->(∃m2:Unit,(s11 0 0 0 c a e d b f (0:Int) (0:Int) (((none:OA)=none)))/\g m2 l)))))))))/\((a == (0:Int))=false->(Ca V 134 #[I J c,I J (J.wrap (b + (1:Int)))] fun m3 m4=>∃m,∃s,m3=T #[I J m,B s]/\(Ca m4 134 #[I J d,I J (J.wrap (a + (1:Int)))] fun m5 m6=>∃n,∃t,m5=T #[I J n,B t]/\(Ca m6 134 #[I J (J.wrap (a + (1:Int))),I J (J.wrap (b + (1:Int)))] fun m7 o=>∃a6,∃u,m7=T #[I J a6,B u]/\((s=true->((t=true->((u=true->(((decide ((J.wrap (m + n)) > (-4611686018427387904:Int)))=true->(((decide ((J.wrap (m + n)) < (4611686018427387904:Int)))=true->(Ca o 135 #[I J (J.wrap (m + n)),I J a6] fun m8 m9=>∃a7,∃a8,∃a9,m8=A #[I J a7,I J a8,P a9]/\(Rt m9 R (A #[I J a7,I J a8,P a9]))))/\((decide ((J.wrap (m + n)) < (4611686018427387904:Int)))=false->(∃n0:Unit,(s11 0 0 0 c a e d b f (0:Int) (0:Int) (((none:OA)=none)))/\g n0 o))))/\((decide ((J.wrap (m + n)) > (-4611686018427387904:Int)))=false->(∃n1:Unit,(s11 0 0 0 c a e d b f (0:Int) (0:Int) (((none:OA)=none)))/\g n1 o))))/\(u=false->(∃n2:Unit,(s11 0 0 0 c a e d b f (0:Int) (0:Int) (((none:OA)=none)))/\g n2 o))))/\(t=false->(∃n3:Unit,(s11 0 0 0 c a e d b f (0:Int) (0:Int) (((none:OA)=none)))/\g n3 o))))/\(s=false->(∃n4:Unit,(s11 0 0 0 c a e d b f (0:Int) (0:Int) (((none:OA)=none)))/\g n4 o)))))))))/\(f.isNone=false->(∃n5:Unit,(s11 0 0 0 c a e d b f (0:Int) (0:Int) (((none:OA)=none)))/\g n5 V)))/\∀(n6:Unit) (w:View),V.Le w->g n6 w->(true=true/\(Ca w 138 #[A #[I J c,I J a,P e]] fun n7 n8=>∃b1,∃b2 b3 b4,n7=A #[B b1,S b2 b3 b4]/\(Ca n8 139 #[A #[I J d,I J b,P f]] fun n9 o0=>∃b5 b6 b7,n9=S b5 b6 b7/\(Ca o0 137 #[A #[B b1,S b2 b3 b4],A #[B false,S b5 b6 b7]] fun o1 o2=>∃b8,∃b9 c0 c1,o1=A #[B b8,S b9 c0 c1]/\(Ca o2 138 #[A #[I J d,I J b,P f]] fun o3 o4=>∃c2,∃c3 c4 c5,o3=A #[B c2,S c3 c4 c5]/\(Ca o4 139 #[A #[I J c,I J a,P e]] fun o5 o6=>∃c6 c7 c8,o5=S c6 c7 c8/\(Ca o6 137 #[A #[B c2,S c3 c4 c5],A #[B false,S c6 c7 c8]] fun o7 o8=>∃c9,∃d0 d1 d2,o7=A #[B c9,S d0 d1 d2]/\(Ca o8 136 #[A #[B b8,S b9 c0 c1],A #[B c9,S d0 d1 d2]] fun o9 p0=>∃d3,∃d4 d5 d6,o9=A #[B d3,S d4 d5 d6]/\(Ca p0 139 #[A #[I J c,I J a,P e]] fun p1 p2=>∃d7 d8 d9,p1=S d7 d8 d9/\(Ca p2 139 #[A #[I J d,I J b,P f]] fun p3 p4=>∃e0 e1 e2,p3=S e0 e1 e2/\(Ca p4 141 #[S d7 d8 d9,S e0 e1 e2] fun p5 p6=>∃e3 e4 e5,p5=S e3 e4 e5/\(Ca p6 140 #[A #[B d3,S d4 d5 d6],S e3 e4 e5] fun p7 p8=>∃e6,∃e7,∃e8,p7=A #[I J e6,I J e7,P e8]/\(Rt p8 R (A #[I J e6,I J e7,P e8]))))))))))))))))/\(e.isNone=false->(Ca V 138 #[A #[I J c,I J a,P e]] fun p9 q0=>∃f0,∃f1 f2 f3,p9=A #[B f0,S f1 f2 f3]/\(Ca q0 139 #[A #[I J d,I J b,P f]] fun q1 q2=>∃f4 f5 f6,q1=S f4 f5 f6/\(Ca q2 137 #[A #[B f0,S f1 f2 f3],A #[B false,S f4 f5 f6]] fun q3 q4=>∃f7,∃f8 f9 g0,q3=A #[B f7,S f8 f9 g0]/\(Ca q4 138 #[A #[I J d,I J b,P f]] fun q5 q6=>∃g1,∃g2 g3 g4,q5=A #[B g1,S g2 g3 g4]/\(Ca q6 139 #[A #[I J c,I J a,P e]] fun q7 q8=>∃g5 g6 g7,q7=S g5 g6 g7/\(Ca q8 137 #[A #[B g1,S g2 g3 g4],A #[B false,S g5 g6 g7]] fun q9 r0=>∃g8,∃g9 i0 i1,q9=A #[B g8,S g9 i0 i1]/\(Ca r0 136 #[A #[B f7,S f8 f9 g0],A #[B g8,S g9 i0 i1]] fun r1 r2=>∃i2,∃i3 i4 i5,r1=A #[B i2,S i3 i4 i5]/\(Ca r2 139 #[A #[I J c,I J a,P e]] fun r3 r4=>∃i6 i7 i8,r3=S i6 i7 i8/\(Ca r4 139 #[A #[I J d,I J b,P f]] fun r5 r6=>∃i9 k0 k1,r5=S i9 k0 k1/\(Ca r6 141 #[S i6 i7 i8,S i9 k0 k1] fun r7 r8=>∃k2 k3 k4,r7=S k2 k3 k4/\(Ca r8 140 #[A #[B i2,S i3 i4 i5],S k2 k3 k4] fun r9 t0=>∃k5,∃k6,∃k7,r9=A #[I J k5,I J k6,P k7]/\(Rt t0 R (A #[I J k5,I J k6,P k7])))))))))))))))):
 Acts prog 74 #[A #[I J c,I J a,P e],A #[I J d,I J b,P f]] V R:=
 fd (LF:=LF0) (RF:=[1000010]) [] [(2,⟨Unit,false,[2,3,4],[2,3,4],fun t1=>[],fun t1=>[]⟩)] func74 h
theorem vc_frac_R_Neg (d e:Int) (a:OA) (V:View) (R:VR) (h:(((!a.isNone)=true->(a.isSome=true)/\(a.isSome=true)/\(∃f,∃g i k,∃b,addrAdd a 0=some b/\V.at (b.add 0) (B f)/\V.at (b.add 1) (S g i k)/\(a.isSome=true)/\(a.isSome=true)/\(∃l m n,(∃o,addrAdd a 2=some o/\V.at o (S l m n))/\(Ca V 197 #[A #[B f,S g i k]] fun w x=>∃p,∃q r s,w=A #[B p,S q r s]/\(∀c,x.Le c->∀t:Nat,(c.blk t (.cells #[B p,S q r s,S l m n] 274 (0,0)))->R (A #[I J 0,I J 0,P (some ⟨t,0,none⟩)]) c)))))/\((!a.isNone)=false->(Rt V R (A #[I J (J.wrap (0 - d)),I J e,P none]))))):
 Acts prog 142 #[A #[I J d,I J e,P a]] V R:=
 fd (LF:=LF0) (RF:=[1000010]) [] [] func142 h
theorem vc_frac_R_Sub (a b:Int) (c:OA) (d e:Int) (f:OA) (V:View) (R:VR) (h:(Ca V 142 #[A #[I J d,I J e,P f]] fun p q=>∃g,∃i,∃k,p=A #[I J g,I J i,P k]/\(Ca q 74 #[A #[I J a,I J b,P c],A #[I J g,I J i,P k]] fun r s=>∃l,∃m,∃n,r=A #[I J l,I J m,P n]/\(Rt s R (A #[I J l,I J m,P n]))))):
 Acts prog 75 #[A #[I J a,I J b,P c],A #[I J d,I J e,P f]] V R:=
 fd (LF:=LF0) (RF:=[1000010]) [] [] func75 h
theorem vc_frac_R_Sign (b o:Int) (a:OA) (V:View) (R:VR) (h:(((!a.isNone)=true->(a.isSome=true)/\(a.isSome=true)/\(∃d,∃e f g,∃c,addrAdd a 0=some c/\V.at (c.add 0) (B d)/\V.at (c.add 1) (S e f g)/\(Ca V 191 #[A #[B d,S e f g]] fun p q=>∃i,p=I J i/\(Rt q R (I J i)))))/\((!a.isNone)=false->(((decide (b < (0:Int)))=true->(Rt V R (I J (-1))))/\((decide (b < (0:Int)))=false->(((decide (b > (0:Int)))=true->(Rt V R (I J 1)))/\((decide (b > (0:Int)))=false->(Rt V R (I J 0))))))))):
 Acts prog 179 #[A #[I J b,I J o,P a]] V R:=
 fd (LF:=LF0) (RF:=[1000010]) [] [] func179 h
theorem vc_frac_R_Cmp (a c:Int) (d:OA) (b e:Int) (f:OA) (V:View) (R:VR) (h:((d.isNone=true->((f.isNone=true->(((c == e)=true->(((decide (a < b))=true->(Rt V R (I J (-1))))/\((decide (a < b))=false->(((decide (a > b))=true->(Rt V R (I J 1)))/\((decide (a > b))=false->(Rt V R (I J 0)))))))/\((c == e)=false->(Ca V 75 #[A #[I J a,I J c,P d],A #[I J b,I J e,P f]] fun a1 a2=>∃l,∃m,∃n,a1=A #[I J l,I J m,P n]/\(Ca a2 179 #[A #[I J l,I J m,P n]] fun a3 a4=>∃o,a3=I J o/\(Rt a4 R (I J o)))))))/\(f.isNone=false->(Ca V 75 #[A #[I J a,I J c,P d],A #[I J b,I J e,P f]] fun a5 a6=>∃q,∃r,∃s,a5=A #[I J q,I J r,P s]/\(Ca a6 179 #[A #[I J q,I J r,P s]] fun a7 a8=>∃t,a7=I J t/\(Rt a8 R (I J t)))))))/\(d.isNone=false->(Ca V 75 #[A #[I J a,I J c,P d],A #[I J b,I J e,P f]] fun a9 b0=>∃w,∃x,∃y,a9=A #[I J w,I J x,P y]/\(Ca b0 179 #[A #[I J w,I J x,P y]] fun b1 b2=>∃z,b1=I J z/\(Rt b2 R (I J z))))))):
 Acts prog 129 #[A #[I J a,I J c,P d],A #[I J b,I J e,P f]] V R:=
 fd (LF:=LF0) (RF:=[1000010]) [] [] func129 h
theorem vc_frac_R_Equal (a b:Int) (c:OA) (d e:Int) (f:OA) (V:View) (R:VR) (h:(Ca V 129 #[A #[I J a,I J b,P c],A #[I J d,I J e,P f]] fun k l=>∃g,k=I J g/\(Rt l R (B (g == (0:Int)))))):
 Acts prog 178 #[A #[I J a,I J b,P c],A #[I J d,I J e,P f]] V R:=
 fd (LF:=LF0) (RF:=[1000010]) [] [] func178 h
end Go.Proofs.Tryz
/- Contracts of package frac: reduce, Num, Den, words. -/
namespace Go.Eng
open Go.Big
/-- A number that fits machine words. -/
def Wd (q:Rat):Prop:=q.num.natAbs < 4611686018427387904/\q.den < 4611686018427387904
/-- A rational number of package frac. -/
def RR (V:View) (v:Value) (q:Rat):Prop:=
 (v=.agg #[.int .i64 q.num,.int .i64 ((q.den:Int) - 1),.pointer none]/\Wd q) \/
 (∃a b p n c p' n' c',v=.agg #[.int .i64 0,.int .i64 0,.pointer (some a)]/\V.at (a.add 0) (.bool b)/\V.at (a.add 1) (.slice p n c)/\V.at (a.add 2) (.slice p' n' c') /\
  RI V (.agg #[.bool b,.slice p n c]) q.num/\RD V p' n' c' (digs q.den)/\¬ Wd q)
theorem RR.le {V V':View} {v:Value} {q:Rat} (h:RR V v q) (l:V.Le V'):RR V' v q:=by
 rcases h with h | ⟨a,b,p,n,c,p',n',c',e,h1,h2,h3,h4,h5,h6⟩
 ·exact .inl h
 ·exact .inr ⟨a,b,p,n,c,p',n',c',e,l.at h1,l.at h2,l.at h3,h4.le l,h5.le l,h6⟩
/-- Its size: binary digits. -/
def Sz (k:Nat) (q:Rat):Prop:=q.num.natAbs < 2 ^ k/\q.den < 2 ^ k
theorem Sz.mono {k m:Nat} {q:Rat} (h:Sz k q) (hm:k<=m):Sz m q:=
 ⟨Nat.lt_of_lt_of_le h.1 (Nat.pow_le_pow_right (by omega) hm),Nat.lt_of_lt_of_le h.2 (Nat.pow_le_pow_right (by omega) hm)⟩
theorem digs_len_bits {n k:Nat} (h:n < 2 ^ k):(digs n).length<=k:=by
 rw [digs_len_le]
 exact Nat.lt_of_lt_of_le h (Nat.pow_le_pow_left (by omega) k)
theorem Wd.sz {q:Rat} (h:Wd q):Sz 62 q:=h
theorem RR.shape {V:View} {v:Value} {q:Rat} (h:RR V v q):∃(n d:Int) (p:OA),v=.agg #[.int .i64 n,.int .i64 d,.pointer p]:=by
 rcases h with ⟨e,-⟩ | ⟨a,b,p,n,c,p',n',c',e,-⟩
 ·exact ⟨_,_,_,e⟩
 ·exact ⟨_,_,_,e⟩
end Go.Eng
namespace Go.Proofs.Tryz
open Go.Eng Go.Big
theorem blen62 (n:Nat):decide ((blen n:Int)<=62)=decide (n < 4611686018427387904):=by
 have:=@blen_le n 62
 rw [Bool.eq_iff_iff,decide_eq_true_eq,decide_eq_true_eq]
 omega
/-- num / den in lowest terms. -/
theorem mkRat_low {z:Int} {d:Nat} (hd:d≠0) (hg:Nat.gcd z.natAbs d=1):(mkRat z d).num=z/\(mkRat z d).den=d:=by
 have:Nat.gcd d z.natAbs=1:=by rw [Nat.gcd_comm]; exact hg
 rw [Rat.num_mkRat,Rat.den_mkRat,if_neg hd,if_neg hd,this]
 simp
theorem c_frac_reduce {V:View} (b:Bool) {p q:OA} {n c m e:Nat} {xs ys:List Nat} (hx:RD V p n c xs) (hy:RD V q m e ys) (hm:xs.length<=1099511627776) (hn:ys.length<=1099511627776) :
  Acts prog 140 #[.agg #[.bool b,.slice p n c],.slice q m e] V fun r V'=>RR V' r (mkRat (ival b xs) (val ys)):=by
 have zero:∀V':View,RR V' (.agg #[.int .i64 0,.int .i64 0,.pointer none]) 0:=fun V'=>.inl ⟨rfl,by unfold Wd; decide⟩
 refine vc_frac_reduce b p n c q m e V _ fun V1 l1=>(c_nat_Bits (hy.le l1) hn).mono ?_
 rintro r V2 l2 rfl
 refine ⟨_,rfl,fun h0 V3 l3=>?_,fun h0 V4 l4=>(c_integer_Sign b (hx.le (l1.trans (l2.trans l4))) hm).mono ?_⟩
 ·have:val ys=0:=blen_zero.1 (by simp at h0; omega)
  rw [this,Rat.mkRat_zero]; exact zero _
 rintro r V5 l5 rfl
 have hy0:val ys≠0:=fun e=>by simp [blen_zero.2 e] at h0
 refine ⟨_,rfl,fun h1 V6 l6=>?_,fun h1 V7 l7=>?_⟩
 ·have:ival b xs=0:=Int.sign_eq_zero_iff_zero.1 (by simpa using h1)
  rw [this,Rat.zero_mkRat]; exact zero _
 have hx0:ival b xs≠0:=fun e=>by simp [e] at h1
 have hx0':val xs≠0:=by rw [← ival_natAbs b xs]; omega
 replace hx:=hx.le (l1.trans (l2.trans (l4.trans (l5.trans l7))))
 replace hy:=hy.le (l1.trans (l2.trans (l4.trans (l5.trans l7))))
 refine (c_nat_Gcd hx hy hm hn).mono ?_
 rintro r V8 l8 ⟨p3,n3,c3,rfl,hg⟩
 replace hx:=hx.le l8
 replace hy:=hy.le l8
 have hgl:Nat.gcd (val xs) (val ys)<=val ys:=Nat.le_of_dvd (by omega) (Nat.gcd_dvd_right _ _)
 have hgd:(digs (Nat.gcd (val xs) (val ys))).length<=1099511627776:=Nat.le_trans (digs_len_mono hgl) (by have:=digs_val_len hy.dig; omega)
 have hgp:Nat.gcd (val xs) (val ys)≠0:=by
  intro e0; exact hx0' (Nat.eq_zero_of_gcd_eq_zero_left e0)
 refine ⟨_,_,_,rfl,fun V9 l9=>(c_nat_Bits (hg.le l9) hgd).mono ?_⟩
 rintro r V10 l10 rfl
 rw [val_digs]
 replace hx:=hx.le (l9.trans l10)
 replace hy:=hy.le (l9.trans l10)
 replace hg:=hg.le (l9.trans l10)
 refine ⟨_,rfl,fun z V'=>∃(us vs:List Nat),z.2.2.2.1=b/\RD V' z.2.2.2.2.1 z.2.2.2.2.2.1 z.2.2.2.2.2.2 us/\RD V' z.1 z.2.1 z.2.2.1 vs/\us.length<=1099511627776/\vs.length<=1099511627776/\val vs≠0 /\
  Nat.gcd (val us) (val vs)=1/\mkRat (ival b xs) (val ys)=mkRat (ival b us) (val vs),⟨fun h2 V11 l11=>?_,fun h2=>?_⟩,?_⟩
 ·refine (c_nat_DivMod (hx.le l11) (hg.le l11) hm hgd (by rw [val_digs]; exact hgp)).mono ?_
  rintro r V12 l12 ⟨p4,n4,c4,p5,n5,c5,rfl,g1,g2⟩
  refine ⟨_,_,_,_,_,_,_,rfl,fun V13 l13=>(c_nat_DivMod (hy.le (l11.trans (l12.trans l13))) (hg.le (l11.trans (l12.trans l13))) hn hgd (by rw [val_digs]; exact hgp)).mono ?_⟩
  rintro r V14 l14 ⟨p6,n6,c6,p7,n7,c7,rfl,g3,g4⟩
  rw [val_digs] at g1 g3
  have e1:val (digs (val xs / Nat.gcd (val xs) (val ys)))=val xs / Nat.gcd (val xs) (val ys):=val_digs _
  have e2:val (digs (val ys / Nat.gcd (val xs) (val ys)))=val ys / Nat.gcd (val xs) (val ys):=val_digs _
  have d1:=Nat.gcd_dvd_left (val xs) (val ys)
  have d2:=Nat.gcd_dvd_right (val xs) (val ys)
  have hdy:val ys / Nat.gcd (val xs) (val ys)≠0:=by
   intro e0
   have:=Nat.div_mul_cancel d2
   rw [e0,Nat.zero_mul] at this
   exact hy0 this.symm
  refine ⟨_,_,_,_,_,_,_,rfl,(p6,n6,c6,b,p4,n4,c4),by (try dsimp only); and_intros <;> trivial,_,_,rfl,g1.le (l13.trans l14),g3,?_,?_,?_,?_,?_⟩
  ·exact Nat.le_trans (digs_len_mono (Nat.div_le_self _ _)) (by have:=digs_val_len hx.dig; omega)
  ·exact Nat.le_trans (digs_len_mono (Nat.div_le_self _ _)) (by have:=digs_val_len hy.dig; omega)
  ·rw [e2]; exact hdy
  ·rw [e1,e2]; exact Nat.gcd_div_gcd_div_gcd_of_pos_left (by omega)
  ·rw [e2]
   have k1:val ys=val ys / Nat.gcd (val xs) (val ys) * Nat.gcd (val xs) (val ys):=(Nat.div_mul_cancel d2).symm
   have k2:ival b xs=ival b (digs (val xs / Nat.gcd (val xs) (val ys))) * (Nat.gcd (val xs) (val ys):Nat):=by
    have k3:(val xs:Int)=((val xs / Nat.gcd (val xs) (val ys):Nat):Int) * (Nat.gcd (val xs) (val ys):Nat):=by
     rw [← Int.natCast_mul,Nat.div_mul_cancel d1]
    unfold ival
    rw [e1]
    cases b
    ·simpa using k3
    ·simp only [if_true]; rw [Int.neg_mul,← k3]
   conv=>lhs; rw [k1,k2]
   exact Rat.mkRat_mul_right hgp
 ·have hg1:Nat.gcd (val xs) (val ys)=1:=by
   have h3:¬ (1 < blen (Nat.gcd (val xs) (val ys))):=by simp at h2; omega
   have:=@blen_le (Nat.gcd (val xs) (val ys)) 1
   omega
  exact ⟨(q,m,e,b,p,n,c),by (try dsimp only); and_intros <;> trivial,xs,ys,rfl,hx,hy,hm,hn,hy0,hg1,rfl⟩
 ·rintro ⟨q,m,e,b',p,n,c⟩ V15 l15 ⟨us,vs,hbb,hu,hv,hul,hvl,hv0,hgc,hq⟩
  dsimp only at hbb hu hv ⊢
  subst hbb
  rw [hq]
  obtain ⟨hnum,hden⟩:=mkRat_low (z:=ival b' us) hv0 (by rw [ival_natAbs]; exact hgc)
  generalize mkRat (ival b' us) (val vs)=w at *
  have hW:Wd w↔val us < 4611686018427387904/\val vs < 4611686018427387904:=by
   unfold Wd; rw [hnum,hden,ival_natAbs]
  have big:∀V1:View,V15.Le V1->¬ Wd w->Acts prog 187 #[.agg #[.bool b',.slice p n c]] V1 fun r V2=>∃(b1_:Bool) (p2_:OA) (n2_ c2_:Nat),r=.agg #[.bool b1_,.slice p2_ n2_ c2_] /\
    (∀V3:View,V2.Le V3->Acts prog 188 #[.slice q m e] V3 fun r V4=>∃(p3_:OA) (n3_ c3_:Nat),r=.slice p3_ n3_ c3_ /\
    (∀V5:View,V4.Le V5->∀bk:Nat,V5.blk bk (.cells #[.bool b1_,.slice p2_ n2_ c2_,.slice p3_ n3_ c3_] 274 (0,0))->RR V5 (.agg #[.int .i64 0,.int .i64 0,.pointer (some ⟨bk,0,none⟩)]) w)):=by
   intro V1 l1 hw
   refine (c_integer_Norm b' (hu.le l1) hul).mono ?_
   rintro r V2 l2 hri
   obtain ⟨p2,n2,c2,rfl,h2⟩:=hri
   have hri:RI V2 (.agg #[.bool (decide (ival b' us < 0)),.slice p2 n2 c2]) (ival b' us):=⟨_,_,_,rfl,h2⟩
   refine ⟨_,_,_,_,rfl,fun V3 l3=>(c_nat_Norm (hv.le (l1.trans (l2.trans l3))) hvl).mono ?_⟩
   rintro r V4 l4 ⟨p3,n3,c3,rfl,h3⟩
   refine ⟨_,_,_,rfl,fun V5 l5 bk hb=>.inr ⟨⟨bk,0,none⟩,decide (ival b' us < 0),p2,n2,c2,p3,n3,c3,rfl,?_,?_,?_,?_,?_,hw⟩⟩
   ·rw [add_zero']; exact blk_at (xs:=[_,_,_]) hb rfl
   ·rw [add_zero']; exact blk_at (xs:=[_,_,_]) hb rfl
   ·rw [add_zero']; exact blk_at (xs:=[_,_,_]) hb rfl
   ·rw [hnum]; exact hri.le (l3.trans (l4.trans l5))
   ·rw [hden]; exact h3.le l5
  refine ⟨by trivial,fun V16 l16=>(c_nat_Bits (hu.le l16) hul).mono ?_⟩
  rintro r V17 l17 rfl
  refine ⟨_,rfl,fun h3 V18 l18=>(c_nat_Bits (hv.le (l16.trans (l17.trans l18))) hvl).mono ?_,fun h3 V30 l30=>big V30 (l16.trans (l17.trans l30)) ?_⟩
  ·rintro r V19 l19 rfl
   rw [blen62,decide_eq_true_eq] at h3
   refine ⟨_,rfl,fun h4 V20 l20=>?_,fun h4 V25 l25=>big V25 (l16.trans (l17.trans (l18.trans (l19.trans l25)))) ?_⟩
   ·rw [blen62,decide_eq_true_eq] at h4
    refine (c_integer_Int64 b' (hu.le (l16.trans (l17.trans (l18.trans (l19.trans l20))))) hul h3).mono ?_
    rintro r V21 l21 rfl
    refine ⟨_,_,rfl,fun V22 l22=>(c_nat_Uint (hv.le (l16.trans (l17.trans (l18.trans (l19.trans (l20.trans (l21.trans l22))))))) hvl).mono ?_⟩
    rintro r V23 l23 rfl
    rw [if_pos (by omega)]
    refine ⟨_,_,rfl,fun V24 l24=>.inl ⟨?_,hW.2 ⟨h3,h4⟩⟩⟩
    rw [i64w (x:=((val vs:Nat):Int)) (by omega),i64w (by omega),hnum,hden]
   ·rw [blen62,decide_eq_false_iff_not] at h4
    rw [hW]; omega
  ·rw [blen62,decide_eq_false_iff_not] at h3
   rw [hW]; omega
end Go.Proofs.Tryz
