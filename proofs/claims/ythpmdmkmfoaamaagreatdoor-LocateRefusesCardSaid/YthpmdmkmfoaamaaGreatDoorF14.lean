import Derived.Test.YthpmdmkmfoaamaaGreatDoorF13
import Derived.Test.YthpmdmkmfoaamaaGreatDoorF7
import Derived.Test.YthpmdmkmfoaamaaGreatDoorF5
import Derived.Test.YthpmdmkmfoaamaaGreatDoorF10
import Derived.Deep.Slices
set_option linter.unusedVariables false
open Go.IntKind (i64 u64 u32)
namespace Go.Proofs.Tryz
open Go.bz Go.eM
theorem xI {V:View}{p:OA}{n c:Nat}{ds:List Nat}(h:RD V p n c ds)(hm:ds.length<=1099511627776) :
  ab prog 130 #[.slice p n c] V fun r V'=>∃p1 n1 c1,r=.slice p1 n1 c1/\RN V' p1 n1 c1 (val ds):=by
 have hl:=h.len
 refine DC p n c V _ ⟨aH ds,h.sl,by simp [hl],by omega,by omega,by simp,by simp [hl],?_,?_⟩
 ·intro v hv
  simp only [aH,List.mem_map] at hv
  obtain ⟨d,-,rfl⟩:=hv
  rfl
 ·intro bk J sp c' h1 h2 V1 l1 b hb
  simp only [Nat.zero_add,Nat.zero_mul,List.take_zero,List.nil_append] at hb h1 ⊢
  refine (cF (copied h.cN hl h1 hb) (by omega)).mono ?_
  rintro r V2 l2 ⟨k,rfl,g⟩
  rw [aO h.cN] at g
  exact ⟨_,_,_,rfl,fun J' V3 l3=>⟨_,_,_,rfl,g.le l3⟩⟩
theorem mH {V:View}(b:Bool){p:OA}{n c:Nat}{ds:List Nat}(h:RD V p n c ds)(hm:ds.length<=1099511627776) :
  ab prog 131 #[.agg #[.bool b,.slice p n c]] V fun r V'=>RI V' r (ay b ds):=by
 refine DB b p n c V _ fun V1 l1=>(xI (h.le l1) hm).mono ?_
 rintro r V2 l2 ⟨p1,n1,c1,rfl,g⟩
 refine ⟨_,_,_,rfl,fun V3 l3=>(cd b (g.le l3)).mono ?_⟩
 rintro r V4 l4 ⟨p2,n2,c2,rfl,g2⟩
 exact ⟨_,_,_,_,rfl,fun V5 l5=>⟨_,_,_,rfl,g2.le l5⟩⟩
theorem pF {b:Bool}{ds:List Nat}(h:bD ds):(ai (ay b ds).natAbs).length<=ds.length:=by
 rw [cA];exact a_ h
theorem xJ {V:View}{v:Value}{b:Bool}{xs ys:List Nat}(h:Ci V v b xs ys)(m1:xs.length<=274877906944)(m2:ys.length<=274877906944) :
  ab prog 86 #[v] V fun r V'=>RQ V' r (uZ b xs ys):=by
 obtain ⟨p,n,c,q,m,e,rfl,hx,hy⟩:=h
 have d1:=pF (b:=b) hx.cN
 have d2:=a_ hy.cN
 refine DD b p n c q m e V _ fun V1 l1=>(xI (hy.le l1) (by omega)).mono ?_
 rintro r V2 l2 ⟨p1,n1,c1,rfl,g⟩
 have gl:=g.len
 refine ⟨_,_,_,rfl,fun h0 V3 l3=>?_,fun h0 V4 l4=>(mH b (hx.le (l1.trans (l2.trans l4))) (by omega)).mono ?_⟩
 ·have h0:((n1:Nat):Int)=0:=by simpa using h0
  have:ai (val ys)=[]:=List.length_eq_zero_iff.1 (by omega)
  have:val ys=0:=aZ.1 this
  unfold uZ
  rw [this,Rat.mkRat_zero]
  have:=RQ.zero (V:=V3)
  simpa using this
 ·have hd:val ys≠0:=fun e=>by
   rw [e] at gl
   have h0:¬((n1:Nat):Int)=0:=by simpa using h0
   exact h0 (by rw [gl];rfl)
  rintro r V5 l5 ⟨p2,n2,c2,rfl,g2⟩
  refine ⟨_,_,_,_,rfl,fun V6 l6=>(nU _ (g2.le l6) (g.le (l4.trans (l5.trans l6))) (by omega) (by omega) hd).mono ?_⟩
  rintro r V7 l7 k
  have k0:=k
  obtain ⟨_,_,_,_,_,_,rfl⟩:=k.shape
  exact ⟨_,_,_,_,_,_,_,rfl,fun V8 l8=>k0.le l8⟩
theorem rX {V:View}{p:OA}{n c:Nat}{ds:List Nat}(h:RD V p n c ds)(hm:ds.length<=1099511627776) :
  ab prog 206 #[.slice p n c] V fun r V'=>r=.bool (decide (ai (val ds)=ds)):=by
 have hl:=h.len
 refine qY p n c V _ ⟨fun h0 V1 l1=>?_,fun h0=>?_⟩
 ·have:ds=[]:=List.length_eq_zero_iff.1 (by simp at h0;omega)
  subst this;rfl
 ·have h0:0<n:=by simp at h0;omega
  simp (disch:=omega) only [ar]
  refine h.rd (n-1) (by omega) (by omega) fun V1 l1=>?_
  congr 1
  rw [Bool.eq_iff_iff]
  simp only [bne_iff_ne,ne_eq,decide_eq_true_eq]
  subst hl
  constructor
  ·intro hz
   exact pk h.cN (rL fun _=>by simpa using hz)
  ·intro he hz
   have:rf ds:=by rw [←he];exact gi _
   exact this.last (by omega) (by simpa using hz)
theorem gF {V:View}(b:Bool){p:OA}{n c:Nat}{ds:List Nat}(h:RD V p n c ds)(hm:ds.length<=1099511627776) :
  ab prog 170 #[.agg #[.bool b,.slice p n c]] V fun r V'=>r=.bool (eO b ds):=by
 have hl:=h.len
 refine qX b p n c V _ fun V1 l1=>(rX (h.le l1) hm).mono ?_
 rintro r V2 l2 rfl
 refine ⟨_,rfl,fun h1=>⟨fun h2 V3 l3=>?_,fun h2 V4 l4=>?_⟩,fun h1 V5 l5=>?_⟩
 ·rw [Bool.not_eq_true'] at h2
  simp [eO,h1,h2]
 ·rw [Bool.not_eq_false'] at h2
  have e:decide (((n:Nat):Int)>0)=!decide (ds=[]):=by
   rw [Bool.eq_iff_iff,decide_eq_true_eq,Bool.not_eq_true',decide_eq_false_iff_not,←List.length_eq_zero_iff];omega
  rw [e]
  simp [eO,h1,h2]
 ·simp [eO,h1]
theorem yr {b:Bool}{xs ys:List Nat}(hx:bD xs)(hy:bD ys){k:Nat}(h1:xs.length<=k)(h2:ys.length<=k):Sz (32*k+1) (uZ b xs ys):=by
 have b1:∀{ds:List Nat},bD ds->ds.length<=k->val ds<2^(32*k):=by
  intro ds hd hl
  have:=dQ hd
  refine Nat.lt_of_lt_of_le this ?_
  have e:(4294967296:Nat)^ds.length<=4294967296^k:=Nat.pow_le_pow_right (by omega) hl
  refine Nat.le_trans e ?_
  rw [show (4294967296:Nat)=2^32 from rfl,←Nat.pow_mul]
  exact Nat.le_refl _
 have c1:=b1 hx h1
 have c2:=b1 hy h2
 have up:(2:Nat)^(32*k)<=2^(32*k+1):=Nat.pow_le_pow_right (by omega) (by omega)
 have one:1<2^(32*k+1):=Nat.one_lt_two_pow (by omega)
 unfold uZ
 by_cases h0:val ys=0
 ·rw [h0,Rat.mkRat_zero]
  exact ⟨by show (0:Int).natAbs<_;omega,one⟩
 ·unfold Sz
  rw [Rat.num_mkRat,Rat.den_mkRat,if_neg h0,if_neg h0]
  constructor
  ·refine Nat.lt_of_le_of_lt ?_ (Nat.lt_of_lt_of_le c1 up)
   refine Nat.le_trans (Int.natAbs_ediv_le_natAbs _ _) ?_
   rw [cA]
   exact Nat.le_refl _
  ·exact Nat.lt_of_le_of_lt (Nat.div_le_self _ _) (Nat.lt_of_lt_of_le c2 up)
theorem Cw {V:View}{v:Value}{b1:Bool}{Fk Fm:List Nat}{b2:Bool}{Fl Fo:List Nat}{p n c p' n' c' q m e q' m' e'}(hv:v=.agg #[.bool b1,.slice p n c,.slice p' n' c',.bool b2,.slice q m e,.slice q' m' e'])
  (h1:Ci V (.agg #[.bool b1,.slice p n c,.slice p' n' c']) b1 Fk Fm)(h2:Ci V (.agg #[.bool b2,.slice q m e,.slice q' m' e']) b2 Fl Fo)(m1:Fk.length<=1000000)(m2:Fm.length<=1000000)(m3:Fl.length<=1000000)(m4:Fo.length<=1000000) :
  ab prog 32 #[v] V fun r V'=>RP V' r (uZ b1 Fk Fm) (uZ b2 Fl Fo):=by
 subst hv
 refine Cb _ _ _ _ _ _ _ _ _ _ _ _ _ _ V _ fun V1 l1=>(xJ (h1.le l1) (by omega) (by omega)).mono ?_
 rintro r V2 l2 g
 have g0:=g
 obtain ⟨_,_,_,_,_,_,rfl⟩:=g.shape
 refine ⟨_,_,_,_,_,_,_,rfl,fun V3 l3=>(xJ (h2.le (l1.trans (l2.trans l3))) (by omega) (by omega)).mono ?_⟩
 rintro r V4 l4 k
 have k0:=k
 obtain ⟨_,_,_,_,_,_,rfl⟩:=k.shape
 exact ⟨_,_,_,_,_,_,_,rfl,fun V5 l5=>⟨_,_,_,_,_,_,_,_,_,_,_,_,rfl,g0.le (l3.trans (l4.trans l5)),k0.le l5⟩⟩
def LC (V:View)(v:Value)(b1:Bool)(xs:List Nat)(b2:Bool)(ys:List Nat)(b3:Bool)(zs:List Nat):Prop:=∃p n c q m e s i j,v=.agg #[.bool b1,.slice p n c,.bool b2,.slice q m e,.bool b3,.slice s i j]/\RD V p n c xs/\RD V q m e ys/\RD V s i j zs
theorem LC.le {V V':View}{v:Value}{b1:Bool}{xs:List Nat}{b2:Bool}{ys:List Nat}{b3:Bool}{zs:List Nat}(h:LC V v b1 xs b2 ys b3 zs)(l:V.Le V'):LC V' v b1 xs b2 ys b3 zs:=by
 obtain ⟨p,n,c,q,m,e,s,i,j,rfl,h1,h2,h3⟩:=h
 exact ⟨_,_,_,_,_,_,_,_,_,rfl,h1.le l,h2.le l,h3.le l⟩
def Pm (v:Value):Prop:=∃b1 p1 n1 c1 b2 p2 n2 c2 b3 p3 n3 c3,v=.agg #[.bool b1,.slice p1 n1 c1,.bool b2,.slice p2 n2 c2,.bool b3,.slice p3 n3 c3]
def CS (b1:Bool)(xs:List Nat)(b2:Bool)(ys:List Nat)(b3:Bool)(zs:List Nat):L3:=(ay b1 xs,ay b2 ys,ay b3 zs)
theorem lZ {b1:Bool}{xs:List Nat}{b2:Bool}{ys:List Nat}{b3:Bool}{zs:List Nat}:iX b1 xs b2 ys b3 zs=(eO b1 xs&&eO b2 ys&&eO b3 zs&&gT (CS b1 xs b2 ys b3 zs)):=by
 have e:=pL (a:=ay b1 xs) (b:=ay b2 ys) (c:=ay b3 zs)
 have hn:∀z:Int,eO (decide (z<0)) (ai z.natAbs)=true:=by
  intro z
  unfold eO
  rw [af]
  by_cases h:z<0
  ·have:ai z.natAbs≠[]:=fun e=>by have:=aZ.1 e;omega
   simp [h,this]
  ·simp [h]
 unfold iX at e ⊢
 rw [hn,hn,hn,az,az,az] at e
 simp only [Bool.true_and] at e
 unfold CS
 rw [←e]
 simp only [Bool.and_assoc]
theorem t_ {V:View}{v:Value}{b1:Bool}{xs:List Nat}{b2:Bool}{ys:List Nat}{b3:Bool}{zs:List Nat}(h:LC V v b1 xs b2 ys b3 zs)(m1:xs.length<=1000000)(m2:ys.length<=1000000)(m3:zs.length<=1000000) :
  ab prog 129 #[v] V fun r V'=>∃w,r=.tuple #[w,.bool (iX b1 xs b2 ys b3 zs)]/\Pm w/\(iX b1 xs b2 ys b3 zs=true->RL V' w (ay b1 xs) (ay b2 ys) (ay b3 zs)):=by
 obtain ⟨p,n,c,q,m,e,s,i,j,rfl,hx,hy,hz⟩:=h
 have d1:=pF (b:=b1) hx.cN
 have d2:=pF (b:=b2) hy.cN
 have d3:=pF (b:=b3) hz.cN
 have bad:∀{V':View},iX b1 xs b2 ys b3 zs=false->∃w,Value.tuple #[.agg #[.bool false,.slice none 0 0,.bool false,.slice none 0 0,.bool false,.slice none 0 0],.bool false]=.tuple #[w,.bool (iX b1 xs b2 ys b3 zs)]/\Pm w/\(iX b1 xs b2 ys b3 zs=true->RL V' w (ay b1 xs) (ay b2 ys) (ay b3 zs)):=fun h=>by
  rw [h];exact ⟨_,rfl,⟨_,_,_,_,_,_,_,_,_,_,_,_,rfl⟩,(fun h=>nomatch h)⟩
 refine B_ b1 p n c b2 q m e b3 s i j V _ fun V1 l1=>(gF b1 (hx.le l1) (by omega)).mono ?_
 rintro r V2 l2 rfl
 refine ⟨_,rfl,fun h1 V3 l3=>bad (by rw [Bool.not_eq_true'] at h1;rw [lZ];simp [h1]),fun h1 V4 l4=>(gF b2 (hy.le (l1.trans (l2.trans l4))) (by omega)).mono ?_⟩
 rintro r V5 l5 rfl
 refine ⟨_,rfl,fun h2 V6 l6=>bad (by rw [Bool.not_eq_true'] at h2;rw [lZ];simp [h2]),fun h2 V7 l7=>?_⟩
 have L7:V.Le V7:=l1.trans (l2.trans (l4.trans (l5.trans l7)))
 refine (gF b3 (hz.le L7) (by omega)).mono ?_
 rintro r V8 l8 rfl
 refine ⟨_,rfl,fun h3 V9 l9=>bad (by rw [Bool.not_eq_true'] at h3;rw [lZ];simp [h3]),fun h3 gQ l10=>?_⟩
 rw [Bool.not_eq_false'] at h1 h2 h3
 have Pk:V.Le gQ:=L7.trans (l8.trans l10)
 refine (mH b1 (hx.le Pk) (by omega)).mono ?_
 rintro r jw bQ ⟨pa,na,ca,rfl,ga⟩
 refine ⟨_,_,_,_,rfl,fun kv cp=>(mH b2 (hy.le (Pk.trans (bQ.trans cp))) (by omega)).mono ?_⟩
 rintro r lA bW ⟨pb,nb,cb,rfl,gb⟩
 refine ⟨_,_,_,_,rfl,fun qk dK=>(mH b3 (hz.le (Pk.trans (bQ.trans (cp.trans (bW.trans dK))))) (by omega)).mono ?_⟩
 rintro r oM dZ ⟨pc,nc,cc,rfl,gc⟩
 refine ⟨_,_,_,_,rfl,fun oN c_=>(dC (x:=(ay b1 xs).natAbs) (y:=(ay b2 ys).natAbs) (ga.le (cp.trans (bW.trans (dK.trans (dZ.trans c_))))) (gb.le (dK.trans (dZ.trans c_))) (by omega) (by omega)).mono ?_⟩
 rintro r qi cQ ⟨pg,ng,cg,rfl,gg⟩
 have hg:=gg.len
 have Vj:(ai (Nat.gcd (ay b1 xs).natAbs (ay b2 ys).natAbs)).length<=274877906944:=by
  by_cases h0:(ay b1 xs).natAbs=0
  ·rw [h0,Nat.gcd_zero_left];omega
  ·have:=aC (Nat.gcd_le_left (ay b2 ys).natAbs (Nat.pos_of_ne_zero h0));omega
 have ok:iX b1 xs b2 ys b3 zs=gT (CS b1 xs b2 ys b3 zs):=by rw [lZ,h1,h2,h3];rfl
 have rl:∀V':View,qi.Le V'->RL V' (.agg #[.bool (decide (ay b1 xs<0)),.slice pa na ca,.bool (decide (ay b2 ys<0)),.slice pb nb cb,.bool (decide (ay b3 zs<0)),.slice pc nc cc]) (ay b1 xs) (ay b2 ys) (ay b3 zs):=fun V' l'=>
  ⟨_,_,_,_,_,_,_,_,_,rfl,ga.le (cp.trans (bW.trans (dK.trans (dZ.trans (c_.trans (cQ.trans l')))))),gb.le (dK.trans (dZ.trans (c_.trans (cQ.trans l')))),gc.le (c_.trans (cQ.trans l'))⟩
 have zg:(Nat.gcd (ay b1 xs).natAbs (ay b2 ys).natAbs=0)↔(ay b1 xs=0/\ay b2 ys=0):=by rw [Nat.gcd_eq_zero_iff];omega
 have Nt:ng=0↔(ay b1 xs=0/\ay b2 ys=0):=by
  rw [←zg,←@aZ (Nat.gcd (ay b1 xs).natAbs (ay b2 ys).natAbs),←List.length_eq_zero_iff];omega
 refine ⟨_,_,_,rfl,fun hp tE eI=>?_,fun hp DH jh=>?_⟩
 ·have hp:¬ng=0:=by have:=of_decide_eq_true hp;omega
  rw [Nt] at hp
  refine (dC (x:=Nat.gcd (ay b1 xs).natAbs (ay b2 ys).natAbs) (y:=(ay b3 zs).natAbs) (gg.le eI) (gc.le (c_.trans (cQ.trans eI))) Vj (by omega)).mono ?_
  rintro r xk eA ⟨ph,nh,ch,rfl,gh⟩
  refine ⟨_,_,_,rfl,fun Ak jC=>jY.mono ?_⟩
  rintro r sR dL ⟨po,no,co,rfl,go⟩
  have Vi:(ai (Nat.gcd (Nat.gcd (ay b1 xs).natAbs (ay b2 ys).natAbs) (ay b3 zs).natAbs)).length<=1099511627776:=by
   have:=aC (Nat.gcd_le_left (ay b3 zs).natAbs (Nat.pos_of_ne_zero fun e=>hp (zg.1 e)));omega
  refine ⟨_,_,_,rfl,fun vY kr=>(fE (x:=Nat.gcd (Nat.gcd (ay b1 xs).natAbs (ay b2 ys).natAbs) (ay b3 zs).natAbs) (y:=1) (gh.le (jC.trans (dL.trans kr))) (go.le kr) Vi (by decide)).mono ?_⟩
  rintro r vZ il rfl
  have e1:(jB (Nat.gcd (Nat.gcd (ay b1 xs).natAbs (ay b2 ys).natAbs) (ay b3 zs).natAbs) 1==0)=gT (CS b1 xs b2 ys b3 zs):=by
   unfold gT CS j7
   dsimp only
   rw [decide_eq_true hp,Bool.true_and]
   rw [Bool.eq_iff_iff,beq_iff_eq,decide_eq_true_eq]
   exact ik
  refine ⟨_,rfl,fun Cj sW=>⟨_,by rw [ok,←e1],⟨_,_,_,_,_,_,_,_,_,_,_,_,rfl⟩,fun _=>rl Cj (eI.trans (eA.trans (jC.trans (dL.trans (kr.trans (il.trans sW))))))⟩⟩
 ·have hp:ng=0:=by have:=of_decide_eq_false hp;omega
  rw [Nt] at hp
  have e1:gT (CS b1 xs b2 ys b3 zs)=false:=by unfold gT CS;simp [hp.1,hp.2]
  exact ⟨_,by rw [ok,e1],⟨_,_,_,_,_,_,_,_,_,_,_,_,rfl⟩,fun h=>by rw [ok,e1] at h;cases h⟩
structure FW where
 b1:Bool
 xs:List Nat
 b2:Bool
 ys:List Nat
 b3:Bool
 zs:List Nat
 c1:Bool
 us:List Nat
 vs:List Nat
 c2:Bool
 ws:List Nat
 ts:List Nat
 na:Bool
 nb:Bool
def FW.ln (f:FW):L3:=CS f.b1 f.xs f.b2 f.ys f.b3 f.zs
def FW.sp (f:FW):Sp:=Ok f.c1 f.us f.vs f.c2 f.ws f.ts f.na f.nb
def FW.ok (f:FW):Bool:=iX f.b1 f.xs f.b2 f.ys f.b3 f.zs&&okW f.c1 f.us f.vs f.c2 f.ws f.ts f.na f.nb
structure FW.short (f:FW):Prop where
 x:f.xs.length<=1000000
 y:f.ys.length<=1000000
 z:f.zs.length<=1000000
 u:f.us.length<=1000000
 v:f.vs.length<=1000000
 w:f.ws.length<=1000000
 t:f.ts.length<=1000000
def OH (V:View)(v:Value)(f:FW):Prop:=∃p1 n1 d1 p2 n2 d2 p3 n3 d3 p n c p' n' c' q m e q' m' e',
 v=.agg #[.bool f.b1,.slice p1 n1 d1,.bool f.b2,.slice p2 n2 d2,.bool f.b3,.slice p3 n3 d3,.bool f.c1,.slice p n c,.slice p' n' c',.bool f.c2,.slice q m e,.slice q' m' e',.bool f.na,.bool f.nb] /\
 LC V (.agg #[.bool f.b1,.slice p1 n1 d1,.bool f.b2,.slice p2 n2 d2,.bool f.b3,.slice p3 n3 d3]) f.b1 f.xs f.b2 f.ys f.b3 f.zs /\
 OL V (.agg #[.bool f.c1,.slice p n c,.slice p' n' c',.bool f.c2,.slice q m e,.slice q' m' e',.bool f.na,.bool f.nb]) f.c1 f.us f.vs f.c2 f.ws f.ts f.na f.nb
theorem OH.le {V V':View}{v:Value}{f:FW}(h:OH V v f)(l:V.Le V'):OH V' v f:=by
 obtain ⟨p1,n1,d1,p2,n2,d2,p3,n3,d3,p,n,c,p',n',c',q,m,e,q',m',e',rfl,h1,h2⟩:=h
 exact ⟨_,_,_,_,_,_,_,_,_,_,_,_,_,_,_,_,_,_,_,_,_,rfl,h1.le l,h2.le l⟩
theorem zk {b:Bool}{xs:List Nat}(h:eO b xs=true):b=decide (ay b xs<0)/\xs=ai (ay b xs).natAbs:=by
 unfold eO at h
 simp only [Bool.and_eq_true,decide_eq_true_eq,Bool.or_eq_true,Bool.not_eq_true'] at h
 obtain ⟨h1,h2⟩:=h
 refine ⟨?_,by rw [cA,h1]⟩
 cases b with
 | false=>simp [ay]
 | true=>
  have:xs≠[]:=by simpa using h2
  have:val xs≠0:=fun e=>this (by rw [←h1,e];rfl)
  simp [ay]
  omega
structure L_ (V:View) (p:OA) (n:Nat) (l:List Nat):Prop where
 len:n=l.length
 at_:∀(i:Nat)(h:i<l.length),∃ad q e,ag p (i*1)=some ad/\V.at ad (.slice q l[i] e)
theorem L_.le {V V':View}{p:OA}{n:Nat}{l:List Nat}(h:L_ V p n l)(e:V.Le V'):L_ V' p n l:=⟨h.len,fun i hi=>by obtain ⟨ad,q,c,h1,h2⟩:=h.at_ i hi;exact ⟨ad,q,c,h1,e.at h2⟩⟩
theorem Ik {V:View}{p:OA}{n c:Nat}{l:List Nat}(N:Int)(h:L_ V p n l)(hn:l.length<1000000) :
  ab prog 82 #[.int .i64 N,.slice p n c] V fun r V'=>∃b,r=.bool b/\(b=true->∀m∈l,(m:Int)<=N):=by
 obtain rfl:=h.len
 refine vS N p _ c V _ ⟨fun z _=>0<=z/\z<=l.length/\∀i (hi:i<l.length),(i:Int)<z->((l[i]:Nat):Int)<=N,fun z=>(l.length-z).toNat,⟨0,by and_intros<;>rfl,by omega,by omega,fun i hi h=>by omega⟩,?_⟩
 rintro z V1 l1 ⟨z0,z1,z2⟩
 refine ⟨rfl,fun hz=>?_,fun hz V3 l3=>⟨true,rfl,fun _ m hm=>?_⟩⟩
 ·have hz:z<l.length:=of_decide_eq_true hz
  obtain ⟨i,rfl⟩:∃i:Nat,z=i:=⟨z.toNat,by omega⟩
  have hi:i<l.length:=by omega
  rw [Int.toNat_natCast]
  have w:i64.wrap ((i:Int)+1)=(i:Int)+1:=ar (by omega)
  rw [w]
  obtain ⟨ad,q,e,ha,hx⟩:=(h.le l1).at_ i hi
  refine ⟨lV ha,⟨by omega,hz⟩,q,l[i],e,⟨ad,ha,hx⟩,fun hb V2 l2=>⟨false,rfl,(fun h=>nomatch h)⟩,fun hb=>⟨(i:Int)+1,by dsimp only;omega,by and_intros<;>rfl,by omega,by omega,fun j hj hlt=>?_⟩⟩
  have hb:¬((l[i]:Nat):Int)>N:=of_decide_eq_false hb
  by_cases e:j=i
  ·subst e;omega
  ·exact z2 j hj (by omega)
 ·have hz:¬z<l.length:=of_decide_eq_false hz
  obtain ⟨i,hi,rfl⟩:=List.mem_iff_getElem.1 hm
  exact z2 i hi (by omega)
structure FA (V:View) (p:OA) (n:Nat) (l:List (Nat×Nat)):Prop where
 len:n=l.length
 at_:∀(i:Nat)(h:i<l.length),∃ad b q e q' e',ag p (i*3)=some ad/\V.at (ad.add 0) (.bool b)/\V.at (ad.add 1) (.slice q l[i].1 e)/\V.at (ad.add 2) (.slice q' l[i].2 e')
theorem FA.le {V V':View}{p:OA}{n:Nat}{l:List (Nat×Nat)}(h:FA V p n l)(e:V.Le V'):FA V' p n l:=⟨h.len,fun i hi=>by obtain ⟨ad,b,q,c,q',c',h1,h2,h3,h4⟩:=h.at_ i hi;exact ⟨ad,b,q,c,q',c',h1,e.at h2,e.at h3,e.at h4⟩⟩
theorem AA {V:View}{p:OA}{n c:Nat}{l:List (Nat×Nat)}(N:Int)(h:FA V p n l)(hn:l.length<1000000) :
  ab prog 81 #[.int .i64 N,.slice p n c] V fun r V'=>∃b,r=.bool b/\(b=true->∀m∈l,(m.1:Int)<=N/\(m.2:Int)<=N):=by
 obtain rfl:=h.len
 refine sO N p _ c V _ ⟨fun z _=>0<=z/\z<=l.length/\∀i (hi:i<l.length),(i:Int)<z->((l[i].1:Nat):Int)<=N/\((l[i].2:Nat):Int)<=N,fun z=>(l.length-z).toNat,⟨0,by and_intros<;>rfl,by omega,by omega,fun i hi h=>by omega⟩,?_⟩
 rintro z V1 l1 ⟨z0,z1,z2⟩
 refine ⟨rfl,fun hz=>?_,fun hz V3 l3=>⟨true,rfl,fun _ m hm=>?_⟩⟩
 ·have hz:z<l.length:=of_decide_eq_true hz
  obtain ⟨i,rfl⟩:∃i:Nat,z=i:=⟨z.toNat,by omega⟩
  have hi:i<l.length:=by omega
  rw [Int.toNat_natCast]
  have w:i64.wrap ((i:Int)+1)=(i:Int)+1:=ar (by omega)
  rw [w]
  obtain ⟨ad,b,q,e,q',e',ha,hx,hy,hw⟩:=(h.le l1).at_ i hi
  refine ⟨lV ha,⟨by omega,hz⟩,b,q,l[i].1,e,q',l[i].2,e',ad,ha,hx,hy,hw,fun hb V2 l2=>⟨false,rfl,(fun h=>nomatch h)⟩,fun hb=>⟨fun hc V2 l2=>⟨false,rfl,(fun h=>nomatch h)⟩,fun hc=>⟨(i:Int)+1,by dsimp only;omega,by and_intros<;>rfl,by omega,by omega,fun j hj hlt=>?_⟩⟩⟩
  have hb:¬((l[i].1:Nat):Int)>N:=of_decide_eq_false hb
  have hc:¬((l[i].2:Nat):Int)>N:=of_decide_eq_false hc
  by_cases e:j=i
  ·subst e;exact ⟨by omega,by omega⟩
  ·exact z2 j hj (by omega)
 ·have hz:¬z<l.length:=of_decide_eq_false hz
  obtain ⟨i,hi,rfl⟩:=List.mem_iff_getElem.1 hm
  exact z2 i hi (by omega)
theorem FX {V:View}{bk c:Nat}{b1:Bool}{p1 n1 c1 b2 p2 n2 c2 b3 p3 n3 c3}{ty:TypeId}(N:Int)(h:V.bu bk (.cells #[.bool b1,.slice p1 n1 c1,.bool b2,.slice p2 n2 c2,.bool b3,.slice p3 n3 c3] ty (0,0))) :
  ab prog 29 #[.int .i64 N,.slice (some ⟨bk,0,none⟩) 1 c] V fun r V'=>∃b,r=.bool b/\(b=true->(n1:Int)<=N/\(n2:Int)<=N/\(n3:Int)<=N):=by
 have hat:∀{V1:View},V.Le V1->∀(i:Nat)(x:Value),([Value.bool b1,.slice p1 n1 c1,.bool b2,.slice p2 n2 c2,.bool b3,.slice p3 n3 c3]:List Value)[i]?=some x->V1.at ((⟨bk,0,none⟩:Addr).add i) x:=fun l i x hx=>by rw [add_zero'];exact l.at (bU (xs:=[Value.bool b1,.slice p1 n1 c1,.bool b2,.slice p2 n2 c2,.bool b3,.slice p3 n3 c3]) h hx)
 refine sM N _ 1 c V _ ⟨fun z _=>z=0\/(z=1/\((n1:Int)<=N/\(n2:Int)<=N/\(n3:Int)<=N)),fun z=>(1-z).toNat,⟨0,by and_intros<;>rfl,.inl rfl⟩,?_⟩
 rintro z V1 l1 hz
 refine ⟨rfl,fun hlt=>?_,fun hlt V5 l5=>⟨true,rfl,fun _=>?_⟩⟩
 ·have hlt:z<1:=of_decide_eq_true hlt
  obtain rfl:z=0:=by rcases hz with h|h<;>omega
  have w:i64.wrap ((0:Int)+1)=1:=ar (by omega)
  rw [w]
  refine ⟨rfl,⟨by omega,by omega⟩,_,_,_,_,_,_,_,_,_,_,_,_,(⟨bk,0,none⟩:Addr),by rfl,hat l1 0 _ rfl,hat l1 1 _ rfl,hat l1 2 _ rfl,hat l1 3 _ rfl,hat l1 4 _ rfl,hat l1 5 _ rfl,fun V2 l2 bk2 hb2=>?_⟩
  have hl:L_ V2 (some ⟨bk2,0,none⟩) 3 [n1,n2,n3]:=by
   refine ⟨rfl,fun i hi=>?_⟩
   have hv:=fun x hx=>bU (i:=i) (v:=x) (xs:=[Value.slice p1 n1 c1,.slice p2 n2 c2,.slice p3 n3 c3]) hb2 hx
   have ha:ag (some ⟨bk2,0,none⟩) (i*1)=some ⟨bk2,i,none⟩:=by simp [ag,add_zero']
   have hi:i=0\/i=1\/i=2:=by have:i<3:=hi;omega
   rcases hi with rfl|rfl|rfl
   ·exact ⟨_,_,_,ha,hv _ rfl⟩
   ·exact ⟨_,_,_,ha,hv _ rfl⟩
   ·exact ⟨_,_,_,ha,hv _ rfl⟩
  refine (Ik N hl (by simp)).mono ?_
  rintro r V3 l3 ⟨b,rfl,hb⟩
  refine ⟨_,rfl,fun J=>⟨fun h V4 l4=>⟨false,rfl,(fun h=>nomatch h)⟩,fun h=>⟨1,by dsimp only;omega,by and_intros<;>rfl,.inr ⟨rfl,?_⟩⟩⟩⟩
  rw [Bool.not_eq_false'] at h
  have:=hb h
  exact ⟨this n1 (by simp),this n2 (by simp),this n3 (by simp)⟩
 ·have hlt:¬z<1:=of_decide_eq_false hlt
  rcases hz with h|h
  ·omega
  ·exact h.2
theorem J0 {V:View}{bk:Nat}{b1 p1 n1 c1 p2 n2 c2 b2 p3 n3 c3 p4 n4 c4}{ty:TypeId}(h:V.bu bk (.cells #[.bool b1,.slice p1 n1 c1,.slice p2 n2 c2,.bool b2,.slice p3 n3 c3,.slice p4 n4 c4] ty (0,0))):FA V (some ⟨bk,0,none⟩) 2 [(n1,n2),(n3,n4)]:=by
 refine ⟨rfl,fun i hi=>?_⟩
 have hv:=fun i x hx=>bU (i:=i) (v:=x) (xs:=[Value.bool b1,.slice p1 n1 c1,.slice p2 n2 c2,.bool b2,.slice p3 n3 c3,.slice p4 n4 c4]) h hx
 have ha:ag (some ⟨bk,0,none⟩) (i*3)=some ⟨bk,i*3,none⟩:=by simp [ag,add_zero']
 have hi:i=0\/i=1:=by have:i<2:=hi;omega
 have hj:∀j,(⟨bk,i*3,none⟩:Addr).add j=⟨bk,i*3+j,none⟩:=fun j=>by rw [←add_zero',kt,add_zero']
 rcases hi with rfl|rfl
 ·exact ⟨_,_,_,_,_,_,ha,by rw [hj];exact hv 0 _ rfl,by rw [hj];exact hv 1 _ rfl,by rw [hj];exact hv 2 _ rfl⟩
 ·exact ⟨_,_,_,_,_,_,ha,by rw [hj];exact hv 3 _ rfl,by rw [hj];exact hv 4 _ rfl,by rw [hj];exact hv 5 _ rfl⟩
theorem tm (l:List Nd):∀(f:Nat)(n:Int)(s:RS),s.bad=true->(cY l f n s).2.bad=true
 | 0,_,_,h=>h
 | f+1,n,s,h=>by
  simp only [cY]
  split
  ·exact h
  ·split
   ·exact h
   ·split
    ·rfl
    ·split
     ·split
      ·exact tm l f _ _ (tm l f _ _ h)
      ·rfl
     ·rfl
def Rp (l:List Nd):Int->Tr->Prop
 | n,.leaf i=>n=(if i then -2 else -1)
 | n,.node ln a b=>∃(k:Nat)(x:Nd),n=(k:Int)/\l[k]?=some x/\x.ln=ln/\gT ln=true/\Rp l x.left a/\Rp l x.right b
theorem CZ (l:List Nd):∀(f:Nat)(n:Int)(s:RS),s.seen.count false<f->(cY l f n s).2.bad=false->Rp l n (cY l f n s).1/\(cY l f n s).2.jZ=s.jZ+(cY l f n s).1.size
 | 0,_,_,h,_=>by omega
 | f+1,n,s,hf,h=>by
  simp only [cY] at h ⊢
  by_cases n2:n=-2
  ·rw [if_pos n2];exact ⟨n2,rfl⟩
  rw [if_neg n2] at h ⊢
  by_cases n1:n=-1
  ·rw [if_pos n1];exact ⟨n1,rfl⟩
  rw [if_neg n1] at h ⊢
  by_cases n0:n<0
  ·rw [if_pos n0] at h;cases h
  rw [if_neg n0] at h ⊢
  split at h
  ·rename_i x hx hs
   by_cases ho:gT x.ln=true
   ·rw [if_pos ho] at h ⊢
    dsimp only at h ⊢
    have hb:(cY l f x.left ⟨s.seen.set n.toNat true,s.jZ+1,s.bad⟩).2.bad=false:=by
     cases e:(cY l f x.left ⟨s.seen.set n.toNat true,s.jZ+1,s.bad⟩).2.bad
     ·rfl
     ·have:=tm l f x.right _ e
      rw [h] at this;cases this
    have hc:=count_set hs
    obtain ⟨i1,i2⟩:=CZ l f x.left _ (by dsimp only;omega) hb
    have hm:=(l_ l f x.left ⟨s.seen.set n.toNat true,s.jZ+1,s.bad⟩).1
    dsimp only at i2 hm
    obtain ⟨j1,j2⟩:=CZ l f x.right _ (by omega) h
    exact ⟨⟨n.toNat,x,by omega,hx,rfl,ho,i1,j1⟩,by simp only [Tr.size];omega⟩
   ·rw [if_neg ho] at h;cases h
  ·cases h
theorem CX {l:List Nd}{root:Int}{t:Tr}(h:kd l root=some t):Rp l root t/\l.length=t.size/\t.iU fun x=>gT x=true:=by
 unfold kd at h
 split at h
 ·cases h
 ·dsimp only at h
  split at h
  ·cases h
  ·rename_i hb
   cases h
   have hb':(cY l (l.length+1) root ⟨List.replicate l.length false,0,false⟩).2.bad=false/\(cY l (l.length+1) root ⟨List.replicate l.length false,0,false⟩).2.jZ=l.length:=by
    constructor
    ·cases e:(cY l (l.length+1) root ⟨List.replicate l.length false,0,false⟩).2.bad
     ·rfl
     ·exact absurd (.inl e) hb
    ·by_cases e:(cY l (l.length+1) root ⟨List.replicate l.length false,0,false⟩).2.jZ=l.length
     ·exact e
     ·exact absurd (.inr e) hb
   obtain ⟨h1,h2⟩:=CZ l (l.length+1) root ⟨List.replicate l.length false,0,false⟩ (by simp) hb'.1
   have ok:∀{t:Tr} {n:Int},Rp l n t->t.iU fun x=>gT x=true:=by
    intro t
    induction t with
    | leaf i=>intro n _;trivial
    | node ln a b iha ihb=>rintro n ⟨k,x,_,_,_,ho,ha,hb⟩;exact ⟨ho,iha ha,ihb hb⟩
   refine ⟨h1,?_,ok h1⟩
   have:=hb'.2
   rw [h2] at this
   dsimp only at this
   omega
theorem G3 {l:List Nd}{root:Int}(hl:l.length<=65536):kd l root=if (cY l (l.length+1) root ⟨List.replicate l.length false,0,false⟩).2.bad=false/\((cY l (l.length+1) root ⟨List.replicate l.length false,0,false⟩).2.seen.all id)=true then some (cY l (l.length+1) root ⟨List.replicate l.length false,0,false⟩).1 else none:=by
 have hc:=tq l (l.length+1) root ⟨List.replicate l.length false,0,false⟩
 have hc0:(List.replicate l.length false).count false=l.length:=by simp
 dsimp only at hc
 rw [hc0] at hc
 unfold kd
 rw [if_neg (by omega)]
 generalize cY l (l.length+1) root ⟨List.replicate l.length false,0,false⟩=r at *
 have e:(r.2.seen.all id)=true↔r.2.jZ=l.length:=by
  have e1:(r.2.seen.all id)=true↔r.2.seen.count false=0:=by
   rw [List.count_eq_zero,List.all_eq_true]
   constructor
   ·intro h hm;have:=h false hm;cases this
   ·intro h x hx;cases x
    ·exact absurd hx h
    ·rfl
  rw [e1];omega
 dsimp only
 by_cases h1:r.2.bad=true
 ·rw [if_pos (.inl h1),if_neg (fun h=>by rw [h1] at h;cases h.1)]
 ·have h1:r.2.bad=false:=by simpa using h1
  by_cases h2:r.2.jZ=l.length
  ·rw [if_neg (by rintro (h|h);rw [h1] at h;cases h;exact h h2),if_pos ⟨h1,e.2 h2⟩]
  ·rw [if_pos (.inr h2),if_neg (fun h=>h2 (e.1 h.2))]
def lG (l:List Nd):Nat->Int->List Bool->Option Tr×List Bool
 | 0,_,s=>(none,s)
 | f+1,n,s=>
  if n=-2 then (some (.leaf true),s) else if n=-1 then (some (.leaf false),s) else if n<0 then (none,s)
  else match l[n.toNat]?,s[n.toNat]? with
   | some x,some false=>
    if gT x.ln then
     match lG l f x.left (s.set n.toNat true) with
     | (none,s1)=>(none,s1)
     | (some a,s1)=>match lG l f x.right s1 with
      | (none,s2)=>(none,s2)
      | (some b,s2)=>(some (.node x.ln a b),s2)
    else (none,s.set n.toNat true)
   | _,_=>(none,s)
theorem zG (l:List Nd):∀(f:Nat)(n:Int)(s:List Bool)(c:Nat),s.count false<f ->
  ((cY l f n ⟨s,c,false⟩).2.bad=true->(lG l f n s).1=none)/\((cY l f n ⟨s,c,false⟩).2.bad=false->lG l f n s=(some (cY l f n ⟨s,c,false⟩).1,(cY l f n ⟨s,c,false⟩).2.seen))
 | 0,_,_,_,h=>by omega
 | f+1,n,s,c,hf=>by
  simp only [cY,lG]
  by_cases n2:n=-2
  ·rw [if_pos n2,if_pos n2];exact ⟨(fun h=>by cases h),fun _=>rfl⟩
  rw [if_neg n2,if_neg n2]
  by_cases n1:n=-1
  ·rw [if_pos n1,if_pos n1];exact ⟨(fun h=>by cases h),fun _=>rfl⟩
  rw [if_neg n1,if_neg n1]
  by_cases n0:n<0
  ·rw [if_pos n0,if_pos n0];exact ⟨fun _=>rfl,(fun h=>by cases h)⟩
  rw [if_neg n0,if_neg n0]
  cases hx:l[n.toNat]? with
  | none=>dsimp only;exact ⟨fun _=>rfl,(fun h=>by cases h)⟩
  | some x=>
  cases hs:s[n.toNat]? with
  | none=>dsimp only;exact ⟨fun _=>rfl,(fun h=>by cases h)⟩
  | some b=>
  cases b with
  | true=>dsimp only;exact ⟨fun _=>rfl,(fun h=>by cases h)⟩
  | false=>
   dsimp only
   by_cases ho:gT x.ln=true
   ·rw [if_pos ho,if_pos ho]
    dsimp only
    have hc:=count_set hs
    obtain ⟨i1,i2⟩:=zG l f x.left (s.set n.toNat true) (c+1) (by omega)
    have hm:=(l_ l f x.left ⟨s.set n.toNat true,c+1,false⟩).1
    dsimp only at hm
    generalize cY l f x.left ⟨s.set n.toNat true,c+1,false⟩=r1 at *
    obtain ⟨t1,s1,c1,b1⟩:=r1
    dsimp only at i1 i2 hm ⊢
    cases b1 with
    | true=>
     have e:=i1 rfl
     have hb:=tm l f x.right ⟨s1,c1,true⟩ rfl
     refine ⟨fun _=>?_,fun h=>by rw [hb] at h;cases h⟩
     generalize lG l f x.left (s.set n.toNat true)=q at *
     obtain ⟨q1,q2⟩:=q
     dsimp only at e
     subst e
     rfl
    | false=>
     have e:=i2 rfl
     rw [e]
     dsimp only
     obtain ⟨j1,j2⟩:=zG l f x.right s1 c1 (by omega)
     refine ⟨fun h=>?_,fun h=>?_⟩
     ·have e2:=j1 h
      generalize lG l f x.right s1=q at *
      obtain ⟨q1,q2⟩:=q
      dsimp only at e2
      subst e2
      rfl
     ·rw [j2 h]
   ·rw [if_neg ho,if_neg ho]
    exact ⟨fun _=>rfl,(fun h=>by cases h)⟩
theorem Hq {l:List Nd}{root:Int}(hl:l.length<=65536):kd l root=if (lG l (l.length+1) root (List.replicate l.length false)).2.all id=true then (lG l (l.length+1) root (List.replicate l.length false)).1 else none:=by
 rw [G3 hl]
 obtain ⟨h1,h2⟩:=zG l (l.length+1) root (List.replicate l.length false) 0 (by simp)
 cases hb:(cY l (l.length+1) root ⟨List.replicate l.length false,0,false⟩).2.bad
 ·rw [h2 hb]
  dsimp only
  by_cases c:((cY l (l.length+1) root ⟨List.replicate l.length false,0,false⟩).2.seen.all id)=true
  ·rw [if_pos ⟨rfl,c⟩,if_pos c]
  ·rw [if_neg (fun h=>c h.2),if_neg c]
 ·rw [if_neg (fun h=>by cases h.1),h1 hb]
  split<;>rfl
theorem tu (l:List Nd):∀(f:Nat)(n:Int)(s:List Bool),(lG l f n s).2.length=s.length/\(lG l f n s).2.count false<=s.count false
 | 0,_,_=>⟨rfl,Nat.le_refl _⟩
 | f+1,n,s=>by
  simp only [lG]
  split
  ·exact ⟨rfl,Nat.le_refl _⟩
  split
  ·exact ⟨rfl,Nat.le_refl _⟩
  split
  ·exact ⟨rfl,Nat.le_refl _⟩
  split
  ·rename_i x hx hs
   have hc:=count_set hs
   split
   ·have i1:=tu l f x.left (s.set n.toNat true)
    generalize lG l f x.left (s.set n.toNat true)=q at *
    obtain ⟨q1,q2⟩:=q
    rw [List.length_set] at i1
    dsimp only at i1
    cases q1 with
    | none=>exact ⟨i1.1,by dsimp only;omega⟩
    | some a=>
     dsimp only
     have i2:=tu l f x.right q2
     generalize lG l f x.right q2=r at *
     obtain ⟨r1,r2⟩:=r
     dsimp only at i2
     cases r1 with
     | none=>exact ⟨i2.1.trans i1.1,by dsimp only;omega⟩
     | some b=>exact ⟨i2.1.trans i1.1,by dsimp only;omega⟩
   ·exact ⟨List.length_set ..,by dsimp only;omega⟩
  ·exact ⟨rfl,Nat.le_refl _⟩
def RT (V:View):OA->Tr->Prop
 | p,.leaf i=>∃(b:Nat)(c0 c1 c2 c3 c4 c5 c6 c7 c8:Value)(r:OA),p=some ⟨b,0,none⟩/\V.bu b (.cells #[c0,c1,c2,c3,c4,c5,c6,c7,c8,.pointer none,.pointer r,.bool i] 190 (0,0))
 | p,.node l x y=>∃(b:Nat)(x1 x2:Int)(x3:OA)(y1 y2:Int)(y3:OA)(z1 z2:Int)(z3:OA)(pl pr:OA)(i:Bool),p=some ⟨b,0,none⟩ /\
   V.bu b (.cells #[.int .i64 x1,.int .i64 x2,.pointer x3,.int .i64 y1,.int .i64 y2,.pointer y3,.int .i64 z1,.int .i64 z2,.pointer z3,.pointer pl,.pointer pr,.bool i] 190 (0,0)) /\
   Cd V (.agg #[.int .i64 x1,.int .i64 x2,.pointer x3,.int .i64 y1,.int .i64 y2,.pointer y3,.int .i64 z1,.int .i64 z2,.pointer z3]) l.1 l.2.1 l.2.2/\RT V pl x/\RT V pr y
theorem RT.le {V V':View}(h:V.Le V'):∀{t:Tr} {p:OA},RT V p t->RT V' p t
 | .leaf i,p,⟨b,c0,c1,c2,c3,c4,c5,c6,c7,c8,r,e,hb⟩=>⟨b,c0,c1,c2,c3,c4,c5,c6,c7,c8,r,e,h _ _ hb⟩
 | .node l x y,p,⟨b,x1,x2,x3,y1,y2,y3,z1,z2,z3,pl,pr,i,e,hb,hl,hx,hy⟩=>⟨b,x1,x2,x3,y1,y2,y3,z1,z2,z3,pl,pr,i,e,h _ _ hb,hl.le h,RT.le h hx,RT.le h hy⟩
theorem RT.LU {V:View}{t:Tr}{p:OA}(h:RT V p t):p.isSome=true:=by
 cases t with
 | leaf i=>obtain ⟨b,c0,c1,c2,c3,c4,c5,c6,c7,c8,r,rfl,hb⟩:=h;rfl
 | node l x y=>obtain ⟨b,x1,x2,x3,y1,y2,y3,z1,z2,z3,pl,pr,i,rfl,-⟩:=h;rfl
theorem fA {V:View}(i:Bool):ab prog 145 #[.bool i] V fun r V'=>∃p,r=.pointer p/\RT V' p (.leaf i):=
 BN i V _ fun V1 l1 b hb=>⟨_,rfl,b,_,_,_,_,_,_,_,_,_,_,rfl,hb⟩
theorem kz {V:View}{p:OA}{t:Tr}(h:RT V p t):ab prog 124 #[.pointer p] V fun r V'=>r=.bool t.KP:=by
 cases t with
 | leaf i=>
  obtain ⟨b,c0,c1,c2,c3,c4,c5,c6,c7,c8,r,rfl,hb⟩:=h
  exact lr _ V _ ⟨rfl,rfl,_,yj hb 9 rfl,fun V1 l1=>rfl⟩
 | node l x y=>
  obtain ⟨b,x1,x2,x3,y1,y2,y3,z1,z2,z3,pl,pr,i,rfl,hb,hl,hx,hy⟩:=h
  refine lr _ V _ ⟨rfl,rfl,_,yj hb 9 rfl,fun V1 l1=>?_⟩
  have:=hx.LU
  cases pl with
  | none=>cases this
  | some a=>rfl
theorem Er {V:View}{v:Value}{l:L3}{p q:OA}{x y:Tr}(hl:Cd V v l.1 l.2.1 l.2.2)(hx:RT V p x)(hy:RT V q y) :
  ab prog 133 #[v,.pointer p,.pointer q] V fun r V'=>∃p',r=.pointer p'/\RT V' p' (.node l x y):=by
 have hl0:=hl
 obtain ⟨x1,x2,x3,y1,y2,y3,z1,z2,z3,rfl,-⟩:=hl
 exact Di _ _ _ _ _ _ _ _ _ p q V _ fun V1 l1 b hb=>⟨_,rfl,b,_,_,_,_,_,_,_,_,_,_,_,_,rfl,hb,hl0.le l1,hx.le l1,hy.le l1⟩
def FC (V:View)(v:Value)(l:L3):Prop:=RL V v l.1 l.2.1 l.2.2\/gT l=false/\∃b1 p n c xs b2 q m e ys b3 s i j zs,v=.agg #[.bool b1,.slice p n c,.bool b2,.slice q m e,.bool b3,.slice s i j]/\RD V p n c xs/\RD V q m e ys/\RD V s i j zs /\
 iX b1 xs b2 ys b3 zs=false/\(xs.length<=1000000/\ys.length<=1000000/\zs.length<=1000000)/\Sz 1000000 (ay b1 xs:Rat)/\Sz 1000000 (ay b2 ys:Rat)/\Sz 1000000 (ay b3 zs:Rat)
theorem FC.le {V V':View}{v:Value}{l:L3}(h:FC V v l)(e:V.Le V'):FC V' v l:=by
 rcases h with h|⟨ho,b1,p,n,c,xs,b2,q,m,e',ys,b3,s,i,j,zs,hv,h1,h2,h3,h4⟩
 ·exact .inl (h.le e)
 ·exact .inr ⟨ho,b1,p,n,c,xs,b2,q,m,e',ys,b3,s,i,j,zs,hv,h1.le e,h2.le e,h3.le e,h4⟩
theorem FC.ok {V:View}{v:Value}{l:L3}(h:FC V v l)(ho:gT l=true):RL V v l.1 l.2.1 l.2.2:=by
 rcases h with h|⟨h,-⟩
 ·exact h
 ·rw [ho] at h;cases h
theorem yM {V:View}{v:Value}{x:L3}(h:FC V v x)(hb:Bd x) :
  ab prog 132 #[v] V fun r V'=>∃w,r=.tuple #[w,.bool (gT x)]/\H2 w/\(gT x=true->Cd V' w x.1 x.2.1 x.2.2):=by
 rcases h with h|⟨ho,b1,p,n,c,xs,b2,q,m,e',ys,b3,s,i,j,zs,rfl,h1,h2,h3,h4,⟨m1,m2,m3⟩,s1,s2,s3⟩
 ·exact AF h hb
 ·refine (tW b1 b2 b3 h1 h2 h3 (by omega) (by omega) (by omega) s1 s2 s3 (by omega)).mono ?_
  rintro r V2 l2 ⟨w,rfl,g1,g2⟩
  rw [h4] at g2 ⊢
  rw [ho]
  exact ⟨w,rfl,g1,fun h=>by cases h⟩
def NR (V:View)(vs:List Value)(l:List Nd):Prop:=∀(i:Nat)(d:Nd),l[i]?=some d->∃(b1:Bool)(p1:OA)(n1 c1:Nat)(b2:Bool)(p2:OA)(n2 c2:Nat)(b3:Bool)(p3:OA)(n3 c3:Nat),
 (∀j v,([.bool b1,.slice p1 n1 c1,.bool b2,.slice p2 n2 c2,.bool b3,.slice p3 n3 c3,.int .i64 d.left,.int .i64 d.right]:List Value)[j]?=some v->vs[i*8+j]?=some v) /\
 FC V (.agg #[.bool b1,.slice p1 n1 c1,.bool b2,.slice p2 n2 c2,.bool b3,.slice p3 n3 c3]) d.ln
theorem NR.le {V V':View}{vs:List Value}{l:List Nd}(h:NR V vs l)(hl:V.Le V'):NR V' vs l:=fun i d hd=>by
 obtain ⟨b1,p1,n1,c1,b2,p2,n2,c2,b3,p3,n3,c3,h1,h2⟩:=h i d hd
 exact ⟨b1,p1,n1,c1,b2,p2,n2,c2,b3,p3,n3,c3,h1,h2.le hl⟩
structure NS (V:View) (p:OA) (n c:Nat) (l:List Nd):Prop where
 len:n=l.length
 cap:n<=c
 row:∃vs,V.sl p vs/\NR V vs l
 Bn:p.isNone=true->c=0
theorem NS.le {V V':View}{p:OA}{n c:Nat}{l:List Nd}(h:NS V p n c l)(hl:V.Le V'):NS V' p n c l:=by
 obtain ⟨h1,h2,⟨vs,h3,h4⟩,h5⟩:=h
 exact ⟨h1,h2,⟨vs,hl.sl h3,h4.le hl⟩,h5⟩
theorem NS.nil {V:View}:NS V none 0 0 []:=⟨rfl,Nat.le_refl _,⟨[],fun i v h=>by simp at h,fun i d h=>by simp at h⟩,fun _=>rfl⟩
theorem NS.LU {V:View}{p:OA}{n c:Nat}{l:List Nd}(h:NS V p n c l)(hn:n≠0):p.isSome=true:=by
 cases p with
 | none=>have:=h.Bn rfl;have:=h.cap;omega
 | some a=>rfl
def eg (l:List Bool):List Value:=l.map .bool
theorem qt {l:List Bool}{i:Nat}{b:Bool}(h:l[i]?=some b):(eg l)[i]?=some (.bool b):=by simp [eg,h]
theorem NS.rd {V:View}{p:OA}{n c:Nat}{l:List Nd}(h:NS V p n c l){k:Nat}{d:Nd}(hd:l[k]?=some d) :
  ∃(b1:Bool)(p1:OA)(n1 c1:Nat)(b2:Bool)(p2:OA)(n2 c2:Nat)(b3:Bool)(p3:OA)(n3 c3:Nat)(a:Addr),ag p (k*8)=some a /\
   V.at (a.add 0) (.bool b1)/\V.at (a.add 1) (.slice p1 n1 c1)/\V.at (a.add 2) (.bool b2)/\V.at (a.add 3) (.slice p2 n2 c2)/\V.at (a.add 4) (.bool b3)/\V.at (a.add 5) (.slice p3 n3 c3)/\V.at (a.add 6) (.int .i64 d.left)/\V.at (a.add 7) (.int .i64 d.right) /\
   FC V (.agg #[.bool b1,.slice p1 n1 c1,.bool b2,.slice p2 n2 c2,.bool b3,.slice p3 n3 c3]) d.ln:=by
 obtain ⟨vs,hs,hr⟩:=h.row
 obtain ⟨b1,p1,n1,c1,b2,p2,n2,c2,b3,p3,n3,c3,h1,h2⟩:=hr k d hd
 obtain ⟨ad,rfl,-⟩:=hs _ _ (h1 0 _ rfl)
 have key:∀j v,([.bool b1,.slice p1 n1 c1,.bool b2,.slice p2 n2 c2,.bool b3,.slice p3 n3 c3,.int .i64 d.left,.int .i64 d.right]:List Value)[j]?=some v->V.at ((ad.add (k*8)).add j) v:=by
  intro j v hv
  obtain ⟨Su,e,ha⟩:=hs _ _ (h1 j v hv)
  cases e
  rw [yz]
  exact ha
 exact ⟨b1,p1,n1,c1,b2,p2,n2,c2,b3,p3,n3,c3,_,rfl,key 0 _ rfl,key 1 _ rfl,key 2 _ rfl,key 3 _ rfl,key 4 _ rfl,key 5 _ rfl,key 6 _ rfl,key 7 _ rfl,h2⟩
theorem Co {l:List Nd}(hb:∀x∈l,Bd x.ln)(hlen:l.length<=65536):∀(f:Nat) (n:Int) (s:RS) {V:View} {rb sb:Nat} {HY:OA} {nc:Nat},NS V HY l.length nc l ->
  V.w.heap[rb]?=some (.cells #[.slice HY l.length nc,.slice (some ⟨sb,0,none⟩) l.length l.length,.int .i64 (s.jZ:Int),.bool s.bad] 162 (0,0))->V.X rb ->
  V.w.heap[sb]?=some (.cells (eg s.seen).toArray 4 (0,0))->V.X sb->rb≠sb->s.seen.length=l.length->s.seen.count false<f->s.jZ+s.seen.count false<=l.length ->
  ab prog 98 #[.pointer (some ⟨rb,0,none⟩),.int .i64 n] V fun r V'=>∃p,r=.pointer p/\RT V' p (cY l f n s).1 /\
   V'.w.heap[rb]?=some (.cells #[.slice HY l.length nc,.slice (some ⟨sb,0,none⟩) l.length l.length,.int .i64 ((cY l f n s).2.jZ:Int),.bool (cY l f n s).2.bad] 162 (0,0)) /\
   V'.w.heap[sb]?=some (.cells (eg (cY l f n s).2.seen).toArray 4 (0,0)):=by
 intro f
 induction f with
 | zero=>intro n s V rb sb HY nc _ _ _ _ _ _ _ h;omega
 | succ f ih=>
  intro n s V rb sb HY nc hns hw1 hx1 hw2 hx2 hne hsl hcf hct
  refine oD rb sb HY l.length nc l.length l.length s.jZ s.bad (eg s.seen) n V _ hw1 hx1 hw2 hx2 hne ⟨fun h0 V1 l1=>(fA _).mono ?_,fun h0=>⟨fun h1 V4 l4=>(fA _).mono ?_,fun h1=>⟨fun h2 V7 l7=>(fA _).mono ?_,fun h2=>⟨fun h3 gQ l10=>(fA _).mono ?_,fun h3=>?_⟩⟩⟩⟩
  ·rintro r V2 l2 ⟨p,rfl,hp⟩
   have e0:n=-2:=by simpa using h0
   have e:cY l (f+1) n s=(.leaf true,s):=by simp [cY,e0]
   rw [h0] at hp
   exact ⟨p,rfl,fun V3 l3 g1 g2=>⟨p,rfl,by rw [e];exact hp.le l3,by rw [e];exact g1,by rw [e];exact g2⟩⟩
  ·rintro r V2 l2 ⟨p,rfl,hp⟩
   have e0:n=-1:=by simpa using h1
   have e:cY l (f+1) n s=(.leaf false,s):=by simp [cY,e0]
   rw [h0] at hp
   exact ⟨p,rfl,fun V3 l3 g1 g2=>⟨p,rfl,by rw [e];exact hp.le l3,by rw [e];exact g1,by rw [e];exact g2⟩⟩
  ·rintro r V2 l2 ⟨p,rfl,hp⟩
   have n0:¬n=-2:=by simpa using h0
   have n1:¬n=-1:=by simpa using h1
   have n2:n<0:=by simpa using h2
   have e:cY l (f+1) n s=(.leaf false,{ s with bad:=true }):=by simp [cY,n0,n1,n2]
   exact ⟨p,rfl,fun V3 l3 g1 g2=>⟨p,rfl,by rw [e];exact hp.le l3,by rw [e];exact g1,by rw [e];exact g2⟩⟩
  ·rintro r V2 l2 ⟨p,rfl,hp⟩
   have n0:¬n=-2:=by simpa using h0
   have n1:¬n=-1:=by simpa using h1
   have n2:¬n<0:=by simpa using h2
   have n3:(l.length:Int)<=n:=by simpa using h3
   have e:cY l (f+1) n s=(.leaf false,{ s with bad:=true }):=by
    simp only [cY,n0,n1,n2,if_false]
    rw [List.getElem?_eq_none (by omega)]
   exact ⟨p,rfl,fun V3 l3 g1 g2=>⟨p,rfl,by rw [e];exact hp.le l3,by rw [e];exact g1,by rw [e];exact g2⟩⟩
  ·have n0:¬n=-2:=by simpa using h0
   have n1:¬n=-1:=by simpa using h1
   have n2:¬n<0:=by simpa using h2
   have n3:n<(l.length:Int):=by simpa using h3
   clear h0 h1 h2 h3
   obtain ⟨k,rfl⟩:=Int.eq_ofNat_of_zero_le (Int.not_lt.1 n2)
   have hk:k<l.length:=by omega
   have hks:k<s.seen.length:=by omega
   simp only [Int.toNat_natCast,Nat.mul_one,Nat.zero_add]
   have hsk:s.seen[k]?=some s.seen[k]:=List.getElem?_eq_getElem hks
   have hlk:l[k]?=some l[k]:=List.getElem?_eq_getElem hk
   refine ⟨⟨by omega,n3⟩,s.seen[k],qt hsk,fun h4 lA bW=>(fA _).mono ?_,fun h4=>⟨⟨by omega,n3⟩,by simp [eg];omega,hns.LU (by omega),⟨by omega,n3⟩,?_⟩⟩
   ·rintro r V2 l2 ⟨p,rfl,hp⟩
    have e:cY l (f+1) (k:Int) s=(.leaf false,{ s with bad:=true }):=by
     simp only [cY,n0,n1,n2,if_false,Int.toNat_natCast]
     rw [hsk,h4,hlk]
    exact ⟨p,rfl,fun V3 l3 g1 g2=>⟨p,rfl,by rw [e];exact hp.le l3,by rw [e];exact g1,by rw [e];exact g2⟩⟩
   ·obtain ⟨b1,p1,m1,c1,b2,p2,m2,c2,b3,p3,m3,c3,a,ha,a0,a1,a2,a3,a4,a5,a6,a7,hL⟩:=hns.rd hlk
    refine ⟨b1,p1,m1,c1,b2,p2,m2,c2,b3,p3,m3,c3,_,_,a,ha,a0,a1,a2,a3,a4,a5,a6,a7,fun oN c_=>(yM (hL.le c_) (hb _ (List.getElem_mem hk))).mono ?_⟩
    rintro r qi cQ ⟨w,rfl,⟨x1,x2,x3,y1,y2,y3,z1,z2,z3,rfl⟩,hw⟩
    rw [h4] at hsk
    have hset:(eg s.seen).set k (.bool true)=eg (s.seen.set k true):=by simp [eg,List.map_set]
    have hcount:=count_set hsk
    have w1:i64.wrap ((s.jZ:Int)+1)=((s.jZ+1:Nat):Int):=by rw [ar (by omega)];omega
    rw [hset,w1]
    refine ⟨_,_,_,_,_,_,_,_,_,_,rfl,fun h5 tE eI=>(fA _).mono ?_,fun h5 sR dL bk1 bk2 g1 g2 g3 g4 g5=>?_⟩
    ·rintro r V2 l2 ⟨p,rfl,hp⟩
     have h5:gT l[k].ln=false:=by simpa using h5
     have e:cY l (f+1) (k:Int) s=(.leaf false,⟨s.seen.set k true,s.jZ+1,true⟩):=by
      simp only [cY,n0,n1,n2,if_false,Int.toNat_natCast]
      rw [hsk,hlk]
      simp [h5]
     exact ⟨p,rfl,fun V3 l3 g1 g2=>⟨p,rfl,by rw [e];exact hp.le l3,by rw [e];exact g1,by rw [e];exact g2⟩⟩
    ·have h5:gT l[k].ln=true:=by simpa using h5
     have lv:V.Le sR:=c_.trans (cQ.trans dL)
     have lX:∀(U:View)(u v:Nat),U.H u->U.H v->(U.aA [u,v]).X u/\(U.aA [u,v]).X v:=fun U u v hu hv=>⟨⟨by simp,hu⟩,⟨by simp,hv⟩⟩
     have i1:=ih l[k].left ⟨s.seen.set k true,s.jZ+1,s.bad⟩ (V:=sR.aA [bk1,bk2]) (hns.le lv) g1 (lX _ _ _ g2 g4).1 g3 (lX _ _ _ g2 g4).2 g5 (by simp [hsl]) (by dsimp only;omega) (by dsimp only;omega)
     have hm:=l_ l f l[k].left ⟨s.seen.set k true,s.jZ+1,s.bad⟩
     have hcc:=tq l f l[k].left ⟨s.seen.set k true,s.jZ+1,s.bad⟩
     have e:cY l (f+1) (k:Int) s=(.node l[k].ln (cY l f l[k].left ⟨s.seen.set k true,s.jZ+1,s.bad⟩).1 (cY l f l[k].right (cY l f l[k].left ⟨s.seen.set k true,s.jZ+1,s.bad⟩).2).1,(cY l f l[k].right (cY l f l[k].left ⟨s.seen.set k true,s.jZ+1,s.bad⟩).2).2):=by
      simp only [cY,n0,n1,n2,if_false,Int.toNat_natCast]
      rw [hsk,hlk]
      simp [h5]
     rw [e]
     clear e
     dsimp only
     generalize cY l f l[k].left ⟨s.seen.set k true,s.jZ+1,s.bad⟩=q1 at *
     obtain ⟨t1,s1⟩:=q1
     dsimp only at i1 hm hcc ⊢
     refine i1.mono ?_
     rintro r vY kr ⟨p,rfl,hp,e1,e2⟩
     refine ⟨p,rfl,_,_,_,_,_,e1,_,e2,fun vZ il OR OS f1 f2 f3 f4 f5=>?_⟩
     have Te:sR.Le vZ:=fun b o h=>il b o (kr b o h)
     have i2:=ih l[k].right s1 (V:=vZ.aA [OR,OS]) (hns.le (lv.trans Te)) f1 (lX _ _ _ f2 f4).1 f3 (lX _ _ _ f2 f4).2 f5 (by rw [hm.2];simp [hsl]) (by omega) (by omega)
     generalize cY l f l[k].right s1=q2 at *
     obtain ⟨t2,s2⟩:=q2
     dsimp only at i2 ⊢
     refine i2.mono ?_
     rintro r Cj sW ⟨q,rfl,hq,e3,e4⟩
     refine ⟨q,rfl,_,_,_,_,_,e3,_,e4,fun DH jh=>?_⟩
     have Nj:vZ.Le Cj:=fun b o h=>sW b o h
     have KR:Cj.Le DH:=fun b o h=>jh b o h
     have lw:qi.Le DH:=dL.trans (Te.trans (Nj.trans KR))
     have QI:vY.Le vZ:=fun b o h=>il b o h
     refine (Er ((hw h5).le lw) (hp.le (QI.trans (Nj.trans KR))) (hq.le KR)).mono ?_
     rintro r HU sX ⟨u,rfl,hu⟩
     exact ⟨u,rfl,fun Kg sY g1 g2=>⟨u,rfl,hu.le sY,g1,g2⟩⟩
theorem FY {V:View}{l:List Nd}(hb:∀x∈l,Bd x.ln){p:OA}{n c:Nat}(root:Int)(h:NS V p n c l) :
  ab prog 45 #[.agg #[.int .i64 root,.slice p n c]] V fun r V'=>(kd l root=none->∃q,r=.tuple #[.pointer q,.bool false])/\(∀t,kd l root=some t->∃q,r=.tuple #[.pointer q,.bool true]/\RT V' q t):=by
 have hl:=h.len
 subst hl
 refine Fh root p l.length c V _ ⟨fun h0 V1 l1=>?_,fun h0=>⟨by omega,Int.le_refl _,?_,fun V2 l2 bk1 bk2 g1 g2 g3 g4 g5=>?_⟩⟩
 ·have h0:65536<l.length:=by simp at h0;omega
  have e:kd l root=none:=by unfold kd;rw [if_pos h0]
  exact ⟨fun _=>⟨_,rfl⟩,fun t ht=>by rw [e] at ht;cases ht⟩
 ·have h0:¬65536<l.length:=by simp at h0;omega
  omega
 ·have h0:¬65536<l.length:=by simp at h0;omega
  simp only [Int.toNat_natCast] at g1 g3 ⊢
  have hr:List.replicate l.length (Value.bool false)=eg (List.replicate l.length false):=by simp [eg]
  rw [hr] at g3
  have hc0:(List.replicate l.length false).count false=l.length:=by simp
  refine (Co hb (by omega) (l.length+1) root ⟨List.replicate l.length false,0,false⟩ (V:=V2.aA [bk1,bk2]) (h.le l2) g1 ⟨by simp,g2⟩ g3 ⟨by simp,g4⟩ g5 (by simp) (by dsimp only;omega) (by dsimp only;omega)).mono ?_
  rintro r V3 l3 ⟨q,rfl,hq,e1,e2⟩
  have hof:kd l root=if (cY l (l.length+1) root ⟨List.replicate l.length false,0,false⟩).2.bad=true\/(cY l (l.length+1) root ⟨List.replicate l.length false,0,false⟩).2.jZ≠l.length then none else some (cY l (l.length+1) root ⟨List.replicate l.length false,0,false⟩).1:=by
   unfold kd;rw [if_neg h0]
  rw [hof]
  clear hof
  generalize cY l (l.length+1) root ⟨List.replicate l.length false,0,false⟩=r0 at *
  obtain ⟨t,s⟩:=r0
  refine ⟨q,rfl,_,_,_,_,_,e1,_,e2,fun h1 V4 l4=>?_,fun h1=>⟨fun h2 V5 l5=>?_,fun h2 V6 l6=>?_⟩⟩
  ·rw [if_pos (.inl h1)]
   exact ⟨fun _=>⟨_,rfl⟩,fun t ht=>by cases ht⟩
  ·have h2:s.jZ≠l.length:=by simp at h2;omega
   rw [if_pos (.inr h2)]
   exact ⟨fun _=>⟨_,rfl⟩,fun t ht=>by cases ht⟩
  ·have h2:s.jZ=l.length:=by simp at h2;omega
   dsimp only at h1 ⊢
   rw [if_neg (by rw [h1,h2];simp)]
   exact ⟨fun e=>(by cases e),fun t1 ht=>by cases ht;exact ⟨q,rfl,RT.le (V:=V3) (V':=V6) (fun b o h=>l6 b o h) hq⟩⟩
theorem ab.ND {f:FuncId}{args:Array Value}{V:View}{R R':Value->View->Prop}(h:ab prog f args V R)(hR:∀r V',V.Le V'->(∀b,V'.H b->V.H b)->R r V'->R' r V'):ab prog f args V R':=
 ⟨h.1,h.2.mono fun _ w' ⟨r,he,hx,hr⟩=>⟨r,he,hx,hR r _ (V.GH w' hx) (fun _ hb=>hb) hr⟩⟩
theorem vt {vs:List Value}{n b:Nat}(h:vs≠[]):vb vs n b=b:=by cases vs with|nil=>exact absurd rfl h|cons v r=>rfl
theorem NR.push {V:View}{vs sp:List Value}{l:List Nd}(h:NR V vs l)(hl:l.length*8<=vs.length){ln:L3}{x y:Int}{b1:Bool}{p1:OA}{n1 c1:Nat}{b2:Bool}{p2:OA}{n2 c2:Nat}{b3:Bool}{p3:OA}{n3 c3:Nat}
  (hL:RL V (.agg #[.bool b1,.slice p1 n1 c1,.bool b2,.slice p2 n2 c2,.bool b3,.slice p3 n3 c3]) ln.1 ln.2.1 ln.2.2) :
  NR V (vs.take (l.length*8)++[.bool b1,.slice p1 n1 c1,.bool b2,.slice p2 n2 c2,.bool b3,.slice p3 n3 c3,.int .i64 x,.int .i64 y]++sp) (l++[⟨ln,x,y⟩]):=by
 intro i d hd
 rcases Nat.lt_or_ge i l.length with hi|hi
 ·rw [List.getElem?_append_left hi] at hd
  obtain ⟨b1',Vs,n1',c1',b2',Vt,Vn,c2',b3',Vw,Vo,c3',h1,h2⟩:=h i d hd
  refine ⟨b1',Vs,n1',c1',b2',Vt,Vn,c2',b3',Vw,Vo,c3',fun j v hv=>?_,h2⟩
  have hj:j<8:=by
   rcases Nat.lt_or_ge j 8 with hj|hj
   ·exact hj
   ·rw [List.getElem?_eq_none (by simpa using hj)] at hv;cases hv
  have:=h1 j v hv
  rw [List.append_assoc,List.getElem?_append_left (by rw [List.length_take];omega),List.getElem?_take,if_pos (by omega)]
  exact this
 ·rw [List.getElem?_append_right hi] at hd
  have hi':i=l.length:=by
   rcases Nat.lt_or_ge (i-l.length) 1 with h'|h'
   ·omega
   ·rw [List.getElem?_eq_none (by simpa using h')] at hd;cases hd
  subst hi'
  simp only [Nat.sub_self,List.getElem?_cons_zero,Option.some.injEq] at hd
  subst hd
  refine ⟨b1,p1,n1,c1,b2,p2,n2,c2,b3,p3,n3,c3,fun j v hv=>?_,.inl hL⟩
  have hj:j<8:=by
   rcases Nat.lt_or_ge j 8 with hj|hj
   ·exact hj
   ·rw [List.getElem?_eq_none (by simpa using hj)] at hv;cases hv
  rw [List.append_assoc,List.getElem?_append_right (by rw [List.length_take];omega),List.length_take,Nat.min_eq_left hl,Nat.add_sub_cancel_left,List.getElem?_append_left (by simpa using hj)]
  exact hv
theorem NR.Rm {V:View}{vs:List Value}{l:List Nd}(h:NR V vs l){k:Nat}{d:Nd}(hd:l[k]?=some d){x:Int}:NR V (vs.set (k*8+6) (.int .i64 x)) (l.set k ⟨d.ln,x,d.right⟩):=by
 intro i d' hd'
 rw [List.getElem?_set] at hd'
 split at hd'
 ·rename_i e
  subst e
  split at hd'
  ·cases hd'
   obtain ⟨b1,p1,n1,c1,b2,p2,n2,c2,b3,p3,n3,c3,h1,h2⟩:=h k d hd
   refine ⟨b1,p1,n1,c1,b2,p2,n2,c2,b3,p3,n3,c3,fun j v hv=>?_,h2⟩
   rw [List.getElem?_set]
   by_cases hj:j=6
   ·subst hj
    have:=h1 6 _ rfl
    have hlt:k*8+6<vs.length:=by
     rcases Nat.lt_or_ge (k*8+6) vs.length with h|h
     ·exact h
     ·rw [List.getElem?_eq_none h] at this;cases this
    rw [if_pos rfl,if_pos hlt]
    exact hv
   ·rw [if_neg (by omega)]
    refine h1 j v ?_
    match j,hj,hv with
    | 0,_,hv=>exact hv
    | 1,_,hv=>exact hv
    | 2,_,hv=>exact hv
    | 3,_,hv=>exact hv
    | 4,_,hv=>exact hv
    | 5,_,hv=>exact hv
    | 6,hj,_=>exact absurd rfl hj
    | 7,_,hv=>exact hv
    | n+8,_,hv=>exact hv
  ·cases hd'
 ·rename_i e
  obtain ⟨b1,p1,n1,c1,b2,p2,n2,c2,b3,p3,n3,c3,h1,h2⟩:=h i d' hd'
  refine ⟨b1,p1,n1,c1,b2,p2,n2,c2,b3,p3,n3,c3,fun j v hv=>?_,h2⟩
  have hj:j<8:=by
   rcases Nat.lt_or_ge j 8 with hj|hj
   ·exact hj
   ·rw [List.getElem?_eq_none (by simpa using hj)] at hv;cases hv
  rw [List.getElem?_set_ne (by omega)]
  exact h1 j v hv
theorem NR.Ro {V:View}{vs:List Value}{l:List Nd}(h:NR V vs l){k:Nat}{d:Nd}(hd:l[k]?=some d){x:Int}:NR V (vs.set (k*8+7) (.int .i64 x)) (l.set k ⟨d.ln,d.left,x⟩):=by
 intro i d' hd'
 rw [List.getElem?_set] at hd'
 split at hd'
 ·rename_i e
  subst e
  split at hd'
  ·cases hd'
   obtain ⟨b1,p1,n1,c1,b2,p2,n2,c2,b3,p3,n3,c3,h1,h2⟩:=h k d hd
   refine ⟨b1,p1,n1,c1,b2,p2,n2,c2,b3,p3,n3,c3,fun j v hv=>?_,h2⟩
   rw [List.getElem?_set]
   by_cases hj:j=7
   ·subst hj
    have:=h1 7 _ rfl
    have hlt:k*8+7<vs.length:=by
     rcases Nat.lt_or_ge (k*8+7) vs.length with h|h
     ·exact h
     ·rw [List.getElem?_eq_none h] at this;cases this
    rw [if_pos rfl,if_pos hlt]
    exact hv
   ·rw [if_neg (by omega)]
    refine h1 j v ?_
    match j,hj,hv with
    | 0,_,hv=>exact hv
    | 1,_,hv=>exact hv
    | 2,_,hv=>exact hv
    | 3,_,hv=>exact hv
    | 4,_,hv=>exact hv
    | 5,_,hv=>exact hv
    | 6,_,hv=>exact hv
    | 7,hj,_=>exact absurd rfl hj
    | n+8,_,hv=>exact hv
  ·cases hd'
 ·rename_i e
  obtain ⟨b1,p1,n1,c1,b2,p2,n2,c2,b3,p3,n3,c3,h1,h2⟩:=h i d' hd'
  refine ⟨b1,p1,n1,c1,b2,p2,n2,c2,b3,p3,n3,c3,fun j v hv=>?_,h2⟩
  have hj:j<8:=by
   rcases Nat.lt_or_ge j 8 with hj|hj
   ·exact hj
   ·rw [List.getElem?_eq_none (by simpa using hj)] at hv;cases hv
  rw [List.getElem?_set_ne (by omega)]
  exact h1 j v hv
theorem NR.kids {V:View}{vs:List Value}{l r:List Nd}{ln:L3}{u v x y:Int}(h:NR V vs (l++⟨ln,u,v⟩::r)):NR V ((vs.set (l.length*8+6) (.int .i64 x)).set (l.length*8+7) (.int .i64 y)) (l++⟨ln,x,y⟩::r):=by
 have e1:(l++(⟨ln,u,v⟩:Nd)::r)[l.length]?=some ⟨ln,u,v⟩:=by simp
 have h1:=h.Rm e1 (x:=x)
 have e2:(l++(⟨ln,u,v⟩:Nd)::r).set l.length ⟨ln,x,v⟩=l++⟨ln,x,v⟩::r:=by simp
 rw [e2] at h1
 have e3:(l++(⟨ln,x,v⟩:Nd)::r)[l.length]?=some ⟨ln,x,v⟩:=by simp
 have h2:=h1.Ro e3 (x:=y)
 have e4:(l++(⟨ln,x,v⟩:Nd)::r).set l.length ⟨ln,x,y⟩=l++⟨ln,x,y⟩::r:=by simp
 rw [e4] at h2
 exact h2
theorem NR.take {V:View}{vs:List Value}{l:List Nd}(h:NR V vs l):NR V (vs.take (l.length*8)) l:=by
 intro i d hd
 obtain ⟨b1,p1,n1,c1,b2,p2,n2,c2,b3,p3,n3,c3,h1,h2⟩:=h i d hd
 refine ⟨b1,p1,n1,c1,b2,p2,n2,c2,b3,p3,n3,c3,fun j v hv=>?_,h2⟩
 have hj:j<8:=by
  rcases Nat.lt_or_ge j 8 with hj|hj
  ·exact hj
  ·rw [List.getElem?_eq_none (by simpa using hj)] at hv;cases hv
 have hi:i<l.length:=by
  rcases Nat.lt_or_ge i l.length with h|h
  ·exact h
  ·rw [List.getElem?_eq_none h] at hd;cases hd
 rw [List.getElem?_take,if_pos (by omega)]
 exact h1 j v hv
theorem NS.ofRow {V:View}{b c:Nat}{vm:List Value}{l:List Nd}{ty:TypeId}(hb:vm≠[]->V.bu b (.cells vm.toArray ty (0,0)))(hc:l.length<=c)(hr:NR V vm l):NS V (mA b c) l.length c l:=by
 refine ⟨rfl,hc,⟨_,?_,hr.take⟩,?_⟩
 ·intro i v hv
  rw [List.getElem?_take] at hv
  split at hv
  ·rename_i hi
   have hne:vm≠[]:=fun e=>by rw [e] at hv;simp at hv
   refine ⟨⟨b,0,none⟩,by unfold mA;rw [if_neg (by omega)],?_⟩
   rw [add_zero']
   exact bU (hb hne) hv
  ·cases hv
 ·intro e
  unfold mA at e
  split at e
  ·assumption
  ·cases e
end Go.Proofs.Tryz
namespace Go.Proofs.Tryz
open Go.bz
def rU (V:View)(g:Nat)(y:Value):Prop:=V.at ⟨g,0,none⟩ y
theorem rU.le {V V':View}{g:Nat}{y:Value}(h:rU V g y)(l:V.Le V'):rU V' g y:=l.at h
def FD (y:Value):Prop:=∃a:Addr,y=.iface 315 (.pointer (some a))
end Go.Proofs.Tryz
namespace Go.Proofs.Tryz
open Go.bz Go.eM
def Pr (V:View)(vs:List Value)(ts:List Tr):Prop:=∀(i:Nat)(t:Tr),ts[i]?=some t->∃p,vs[i]?=some (.pointer p)/\RT V p t
theorem Pr.le {V V':View}{vs:List Value}{ts:List Tr}(h:Pr V vs ts)(l:V.Le V'):Pr V' vs ts:=fun i t ht=>by
 obtain ⟨p,h1,h2⟩:=h i t ht
 exact ⟨p,h1,h2.le l⟩
def AT (V:View)(v:Value)(root:Int)(l:List Nd):Prop:=∃q n c,v=.agg #[.int .i64 root,.slice q n c]/\NS V q n c l
theorem AT.le {V V':View}{v:Value}{root:Int}{l:List Nd}(h:AT V v root l)(hl:V.Le V'):AT V' v root l:=by
 obtain ⟨q,n,c,e,h⟩:=h;exact ⟨q,n,c,e,h.le hl⟩
theorem AT.zero {V:View}:AT V (.agg #[.int .i64 0,.slice none 0 0]) 0 []:=⟨_,_,_,rfl,NS.nil⟩
def RW (V:View):OA->Tr->Prop
 | p,.leaf i=>∃(b:Nat)(c2 c3 c4 c5 c6 c7 c8 c9:Value),p=some ⟨b,0,none⟩/\V.bu b (.cells #[.bool true,.bool i,c2,c3,c4,c5,c6,c7,c8,c9] 64 (0,0))
 | p,.node l x y=>∃(b:Nat)(i:Bool)(b1:Bool)(p1:OA)(n1 c1:Nat)(b2:Bool)(p2:OA)(n2 c2:Nat)(b3:Bool)(p3:OA)(n3 c3:Nat)(pl pr:OA),p=some ⟨b,0,none⟩ /\
   V.bu b (.cells #[.bool false,.bool i,.bool b1,.slice p1 n1 c1,.bool b2,.slice p2 n2 c2,.bool b3,.slice p3 n3 c3,.pointer pl,.pointer pr] 64 (0,0)) /\
   RL V (.agg #[.bool b1,.slice p1 n1 c1,.bool b2,.slice p2 n2 c2,.bool b3,.slice p3 n3 c3]) l.1 l.2.1 l.2.2/\RW V pl x/\RW V pr y
theorem RW.le {V V':View}(h:V.Le V'):∀{t:Tr} {p:OA},RW V p t->RW V' p t
 | .leaf i,p,⟨b,c2,c3,c4,c5,c6,c7,c8,c9,e,hb⟩=>⟨b,c2,c3,c4,c5,c6,c7,c8,c9,e,h _ _ hb⟩
 | .node l x y,p,⟨b,i,b1,p1,n1,c1,b2,p2,n2,c2,b3,p3,n3,c3,pl,pr,e,hb,hl,hx,hy⟩=>⟨b,i,b1,p1,n1,c1,b2,p2,n2,c2,b3,p3,n3,c3,pl,pr,e,h _ _ hb,hl.le h,RW.le h hx,RW.le h hy⟩
theorem pe {V:View}(i:Bool):ab prog 42 #[.bool i] V fun r V'=>∃p,r=.pointer p/\RW V' p (.leaf i):=
 xe i V _ fun V1 l1 b hb=>⟨_,rfl,b,_,_,_,_,_,_,_,_,rfl,hb⟩
def Fp (x:L3):Prop:=gT x=true/\Bd x
theorem yR {V:View}{v:Value}{x:L3}(h:FC V v x)(hb:Bd x) :
  ab prog 129 #[v] V fun r V'=>∃w,r=.tuple #[w,.bool (gT x)]/\Pm w/\(gT x=true->RL V' w x.1 x.2.1 x.2.2):=by
 rcases h with h|⟨ho,b1,p,n,c,xs,b2,q,m,e',ys,b3,s,i,j,zs,rfl,h1,h2,h3,h4,⟨m1,m2,m3⟩,s1,s2,s3⟩
 ·obtain ⟨p,n,s,p',n',s',q,m,e,rfl,h1,h2,h3⟩:=h
  obtain ⟨d1,d2,d3⟩:=hb.ai
  have hc:=t_ (V:=V) (b1:=decide (x.1<0)) (b2:=decide (x.2.1<0)) (b3:=decide (x.2.2<0)) ⟨p,n,s,p',n',s',q,m,e,rfl,h1,h2,h3⟩ (by omega) (by omega) (by omega)
  rw [pL,az,az,az] at hc
  exact hc
 ·refine (t_ ⟨p,n,c,q,m,e',s,i,j,rfl,h1,h2,h3⟩ m1 m2 m3).mono ?_
  rintro r V2 l2 ⟨w,rfl,g1,g2⟩
  rw [h4] at g2 ⊢
  rw [ho]
  exact ⟨w,rfl,g1,fun h=>by cases h⟩
theorem yU {l:List Nd}(hb:∀x∈l,Bd x.ln)(hlen:l.length<=65536)(t0:Int){HY:OA}{nc:Nat}:∀(f:Nat) (n:Int) (s:List Bool) {V:View} {lb:Nat},NS V HY l.length nc l ->
  V.w.heap[lb]?=some (.cells (eg s).toArray 4 (0,0))->V.X lb->s.length=l.length->s.count false<f ->
  ab prog 83 #[.agg #[.int .i64 t0,.slice HY l.length nc],.int .i64 n,.slice (some ⟨lb,0,none⟩) l.length l.length] V fun r V'=>∃p,r=.tuple #[.pointer p,.bool (lG l f n s).1.isSome]/\(∀t,(lG l f n s).1=some t->RW V' p t) /\
   V'.w.heap[lb]?=some (.cells (eg (lG l f n s).2).toArray 4 (0,0)):=by
 intro f
 induction f with
 | zero=>intro n s V lb _ _ _ _ h;omega
 | succ f ih=>
  intro n s V lb hns hw hx hsl hcf
  refine xg t0 HY l.length nc n lb l.length l.length (eg s) V _ hw hx ⟨fun h0 V1 l1 bk e1 hbk=>?_,fun h0=>⟨fun h1 V2 l2 bk e1 hbk=>?_,fun h1=>⟨fun h2 V3 l3 e1=>?_,fun h2=>⟨fun h3 V4 l4 e1=>?_,fun h3=>?_⟩⟩⟩⟩
  ·have e0:n=-2:=by simpa using h0
   have e:lG l (f+1) n s=(some (.leaf true),s):=by simp [lG,e0]
   rw [h0] at hbk
   rw [e]
   exact ⟨_,rfl,fun t ht=>by cases ht;exact ⟨bk,_,_,_,_,_,_,_,_,rfl,hbk⟩,e1⟩
  ·have n0:¬n=-2:=by simpa using h0
   have e0:n=-1:=by simpa using h1
   have e:lG l (f+1) n s=(some (.leaf false),s):=by simp [lG,e0]
   rw [h0] at hbk
   rw [e]
   exact ⟨_,rfl,fun t ht=>by cases ht;exact ⟨bk,_,_,_,_,_,_,_,_,rfl,hbk⟩,e1⟩
  ·have n0:¬n=-2:=by simpa using h0
   have n1:¬n=-1:=by simpa using h1
   have n2:n<0:=by simpa using h2
   have e:lG l (f+1) n s=(none,s):=by simp [lG,n0,n1,n2]
   rw [e]
   exact ⟨_,rfl,(fun t ht=>by cases ht),e1⟩
  ·have n0:¬n=-2:=by simpa using h0
   have n1:¬n=-1:=by simpa using h1
   have n2:¬n<0:=by simpa using h2
   have n3:(l.length:Int)<=n:=by simpa using h3
   have e:lG l (f+1) n s=(none,s):=by
    simp only [lG,n0,n1,n2,if_false]
    rw [List.getElem?_eq_none (by omega)]
   rw [e]
   exact ⟨_,rfl,(fun t ht=>by cases ht),e1⟩
  ·have n0:¬n=-2:=by simpa using h0
   have n1:¬n=-1:=by simpa using h1
   have n2:¬n<0:=by simpa using h2
   have n3:n<(l.length:Int):=by simpa using h3
   clear h0 h1 h2 h3
   obtain ⟨k,rfl⟩:=Int.eq_ofNat_of_zero_le (Int.not_lt.1 n2)
   have hk:k<l.length:=by omega
   have hks:k<s.length:=by omega
   simp only [Int.toNat_natCast,Nat.mul_one,Nat.zero_add]
   have hsk:s[k]?=some s[k]:=List.getElem?_eq_getElem hks
   have hlk:l[k]?=some l[k]:=List.getElem?_eq_getElem hk
   refine ⟨⟨by omega,n3⟩,s[k],qt hsk,fun h4 V5 l5 e1=>?_,fun h4=>?_⟩
   ·have e:lG l (f+1) (k:Int) s=(none,s):=by
     simp only [lG,n0,n1,n2,if_false,Int.toNat_natCast]
     rw [hsk,h4,hlk]
    rw [e]
    exact ⟨_,rfl,(fun t ht=>by cases ht),e1⟩
   obtain ⟨b1,p1,m1,c1,b2,p2,m2,c2,b3,p3,m3,c3,a,ha,a0,a1,a2,a3,a4,a5,a6,a7,hL⟩:=hns.rd hlk
   rw [ha]
   rw [h4] at hsk
   have hset:(eg s).set k (.bool true)=eg (s.set k true):=by simp [eg,List.map_set]
   have hcount:=count_set hsk
   rw [hset]
   refine ⟨⟨by omega,n3⟩,by simp [eg];omega,hns.LU (by omega),⟨by omega,n3⟩,rfl,b1,p1,m1,c1,b2,p2,m2,c2,b3,p3,m3,c3,a,rfl,a0,a1,a2,a3,a4,a5,fun V6 l6=>(yR (hL.le l6) (hb _ (List.getElem_mem hk))).mono ?_⟩
   rintro r V7 l7 ⟨w,rfl,⟨y1,y2,y3,y4,y5,y6,y7,y8,y9,Lu,Lv,Lw,rfl⟩,hw'⟩
   have Gw:=l6.trans l7
   refine ⟨_,_,_,_,_,_,_,_,_,_,_,_,_,rfl,fun h5 V8 l8 e1=>?_,fun h5=>⟨hns.LU (by omega),⟨by omega,n3⟩,rfl,l[k].left,⟨_,rfl,Gw.at a6⟩,fun V9 l9 bk g1 g2=>?_⟩⟩
   ·have h5:gT l[k].ln=false:=by simpa using h5
    have e:lG l (f+1) (k:Int) s=(none,s.set k true):=by
     simp only [lG,n0,n1,n2,if_false,Int.toNat_natCast]
     rw [hsk,hlk]
     simp [h5]
    rw [e]
    exact ⟨_,rfl,(fun t ht=>by cases ht),e1⟩
   have h5:gT l[k].ln=true:=by simpa using h5
   have DV:=Gw.trans l9
   have i1:=ih l[k].left (s.set k true) (V:=V9.aA [bk]) (hns.le DV) g1 ⟨by simp,g2⟩ (by simp [hsl]) (by omega)
   have q1:=tu l f l[k].left (s.set k true)
   rw [List.length_set] at q1
   have e:lG l (f+1) (k:Int) s=match lG l f l[k].left (s.set k true) with
     | (none,s1)=>(none,s1)
     | (some a,s1)=>match lG l f l[k].right s1 with
      | (none,s2)=>(none,s2)
      | (some b,s2)=>(some (.node l[k].ln a b),s2):=by
    simp only [lG,n0,n1,n2,if_false,Int.toNat_natCast]
    rw [hsk,hlk]
    simp only [h5,if_true]
    try rfl
   rw [e]
   clear e
   generalize lG l f l[k].left (s.set k true)=u at *
   obtain ⟨u1,u2⟩:=u
   dsimp only at i1 q1
   refine i1.mono ?_
   rintro r gQ l10 ⟨pa,rfl,hpa,e2⟩
   refine ⟨_,_,rfl,_,e2,fun h6 jw bQ e3=>?_,fun h6=>⟨hns.LU (by omega),⟨by omega,n3⟩,rfl,l[k].right,⟨_,rfl,?_⟩,fun kv cp Uc g3 g4=>?_⟩⟩
   ·cases u1 with
    | none=>exact ⟨_,rfl,(fun t ht=>by cases ht),e3⟩
    | some t=>cases h6
   ·have IZ:V9.Le gQ:=fun b o h=>l10 b o h
    exact (DV.trans IZ).at a7
   cases u1 with
   | none=>cases h6
   | some ta=>
    have IZ:V9.Le gQ:=fun b o h=>l10 b o h
    have Gx:gQ.Le kv:=fun b o h=>cp b o h
    have i2:=ih l[k].right u2 (V:=kv.aA [Uc]) (hns.le (DV.trans (IZ.trans Gx))) g3 ⟨by simp,g4⟩ (by omega) (by omega)
    dsimp only
    generalize lG l f l[k].right u2=z at *
    obtain ⟨z1,z2⟩:=z
    dsimp only at i2
    refine i2.mono ?_
    rintro r lA bW ⟨pb,rfl,hpb,e4⟩
    have JX:kv.Le lA:=fun b o h=>bW b o h
    refine ⟨_,_,rfl,_,e4,fun qk dK bk2 e5 hbk=>?_⟩
    have GA:lA.Le qk:=fun b o h=>dK b o h
    cases z1 with
    | none=>exact ⟨_,rfl,(fun t ht=>by cases ht),e5⟩
    | some tb=>
     refine ⟨_,rfl,fun t ht=>?_,e5⟩
     cases ht
     exact ⟨bk2,_,_,_,_,_,_,_,_,_,_,_,_,_,_,_,rfl,hbk,(hw' h5).le (l9.trans (IZ.trans (Gx.trans (JX.trans GA)))),RW.le (Gx.trans (JX.trans GA)) (hpa _ rfl),RW.le GA (hpb _ rfl)⟩
theorem yT {V:View}{l:List Nd}(hb:∀x∈l,Bd x.ln)(root:Int){p:OA}{n c:Nat}(h:NS V p n c l) :
  ab prog 30 #[.agg #[.int .i64 root,.slice p n c]] V fun r V'=>∃q,r=.tuple #[.pointer q,.bool (kd l root).isSome]/\∀t,kd l root=some t->RW V' q t:=by
 have hl:=h.len
 subst hl
 refine xf root p l.length c V _ ⟨fun h0 V1 l1=>?_,fun h0=>⟨by omega,Int.le_refl _,?_,fun V2 l2 bk g1 g2=>?_⟩⟩
 ·have h0:65536<l.length:=by simp at h0;omega
  have e:kd l root=none:=by unfold kd;rw [if_pos h0]
  rw [e]
  exact ⟨_,rfl,fun t ht=>by cases ht⟩
 ·have h0:¬65536<l.length:=by simp at h0;omega
  omega
 ·have h0:¬65536<l.length:=by simp at h0;omega
  rw [Int.toNat_natCast] at g1 ⊢
  have hr:List.replicate l.length (Value.bool false)=eg (List.replicate l.length false):=by simp [eg]
  rw [hr] at g1
  have i1:=yU hb (by omega) root (l.length+1) root (List.replicate l.length false) (V:=V2.aA [bk]) (h.le l2) g1 ⟨by simp,g2⟩ (by simp) (by simp)
  have q1:=(tu l (l.length+1) root (List.replicate l.length false)).1
  rw [Hq (by omega)]
  rw [List.length_replicate] at q1
  generalize lG l (l.length+1) root (List.replicate l.length false)=u at *
  obtain ⟨u1,u2⟩:=u
  dsimp only at i1 q1 ⊢
  refine i1.mono ?_
  rintro r V3 l3 ⟨pa,rfl,hpa,e2⟩
  refine ⟨_,_,rfl,_,e2,fun z _=>∃i:Nat,z.2=(i:Int)/\i<=l.length/\z.1=(u1.isSome&&(u2.take i).all id),fun z=>(l.length-z.2).toNat,⟨(_,0),by and_intros<;>first|rfl|trivial,0,rfl,Nat.zero_le _,by cases u1<;>simp⟩,?_⟩
  rintro ⟨zb,z⟩ V4 l4 ⟨i,e,hi,f1⟩
  dsimp only at e f1 ⊢
  subst e f1
  refine ⟨by trivial,fun hlt=>?_,fun hlt V5 l5=>?_⟩
  ·have hlt:i<l.length:=by have:=of_decide_eq_true hlt;omega
   have w1:i64.wrap ((i:Int)+1)=((i+1:Nat):Int):=by rw [ar (by omega)];rfl
   have hu:u2[i]?=some u2[i]:=List.getElem?_eq_getElem (by omega)
   have et:(u2.take (i+1)).all id=((u2.take i).all id&&u2[i]):=by
    rw [←List.take_append_getElem (show i<u2.length by omega),List.all_append];simp
   rw [w1,Int.toNat_natCast,Nat.mul_one,Nat.zero_add]
   refine ⟨⟨by omega,by omega⟩,u2[i],qt hu,fun k=>⟨(_,((i+1:Nat):Int)),by dsimp only;omega,by and_intros<;>first|rfl|trivial,i+1,rfl,hlt,?_⟩,fun k=>⟨(_,((i+1:Nat):Int)),by dsimp only;omega,by and_intros<;>first|rfl|trivial,i+1,rfl,hlt,?_⟩⟩
   ·rw [et,←Bool.and_assoc,k];rfl
   ·rw [et,←Bool.and_assoc,k];rfl
  ·have hlt:i=l.length:=by have:=of_decide_eq_false hlt;omega
   subst hlt
   rw [List.take_of_length_le (by omega)]
   have Ce:V3.Le V5:=fun b o h=>l5 b o (l4 b o h)
   by_cases c:u2.all id=true
   ·rw [if_pos c,c,Bool.and_true]
    exact ⟨_,rfl,fun t ht=>RW.le Ce (hpa t ht)⟩
   ·rw [if_neg c]
    have c:u2.all id=false:=by simpa using c
    rw [c,Bool.and_false]
    exact ⟨_,rfl,fun t ht=>by cases ht⟩
theorem row_one {α:Type}{sz:Nat}{R:View->Value->α->Prop}{V:View}{xs:List Value}{a:α}(hx:xs.length=sz)(ha:R V (.agg xs.toArray) a):Row sz R V xs [a]:=by
 refine ⟨fun i hi=>?_⟩
 obtain rfl:i=0:=by simpa using hi
 exact ⟨xs,hx,ha,fun j x hj=>by rw [Nat.zero_mul,Nat.zero_add];exact hj⟩
theorem Db {α:Type}{sz:Nat}{R:View->Value->α->Prop}{V:View}{vs:List Value}{ls:List α}(h:Row sz R V vs ls){k:Nat}(hk:k<=ls.length){xs sp:List Value}{a:α}(hx:xs.length=sz)(ha:R V (.agg xs.toArray) a)(hs:0<sz) :
  Row sz R V (vs.take (k*sz)++(xs++(vs.take (ls.length*sz)).drop (k*sz))++sp) (ls.take k++a::ls.drop k):=by
 have hl:=h.eY hs
 have hks:k*sz<=ls.length*sz:=Nat.mul_le_mul_right _ hk
 have t1:(vs.take (k*sz)).length=k*sz:=by rw [List.length_take];omega
 have t2:((vs.take (ls.length*sz)).drop (k*sz)).length=ls.length*sz-k*sz:=by rw [List.length_drop,List.length_take];omega
 have a1:(ls.take k).length=k:=by rw [List.length_take];omega
 refine ⟨fun i hi=>?_⟩
 rw [List.append_assoc]
 by_cases c1:i<k
 ·have hi':i<ls.length:=by omega
  obtain ⟨ys,y1,y2,y3⟩:=h.at_ i hi'
  have e:(ls.take k++a::ls.drop k)[i]=ls[i]:=by rw [List.getElem_append_left (by omega),List.getElem_take]
  refine ⟨ys,y1,by rw [e];exact y2,fun j x hj=>?_⟩
  have hj':=(List.getElem?_eq_some_iff.1 hj).1
  have hlt:i*sz+j<k*sz:=by
   have:(i+1)*sz<=k*sz:=Nat.mul_le_mul_right _ c1
   rw [Nat.succ_mul] at this
   omega
  rw [List.getElem?_append_left (by omega),List.getElem?_take,if_pos hlt]
  exact y3 j x hj
 ·by_cases c2:i=k
  ·subst c2
   have e:(ls.take i++a::ls.drop i)[i]=a:=by
    rw [List.getElem_append_right (by omega)]
    simp [a1]
   refine ⟨xs,hx,by rw [e];exact ha,fun j x hj=>?_⟩
   have hj':=(List.getElem?_eq_some_iff.1 hj).1
   rw [List.getElem?_append_right (by omega),t1,Nat.add_sub_cancel_left,List.append_assoc,List.getElem?_append_left hj']
   exact hj
  ·have hi':i-1<ls.length:=by
    rw [List.length_append,a1,List.length_cons,List.length_drop] at hi
    omega
   obtain ⟨ys,y1,y2,y3⟩:=h.at_ (i-1) hi'
   have e:(ls.take k++a::ls.drop k)[i]=ls[i-1]:=by
    rw [List.getElem_append_right (by omega)]
    obtain ⟨m,hm⟩:∃m,i=k+(m+1):=⟨i-k-1,by omega⟩
    subst hm
    simp only [a1,Nat.add_sub_cancel_left,List.getElem_cons_succ,List.getElem_drop]
    congr 1
   refine ⟨ys,y1,by rw [e];exact y2,fun j x hj=>?_⟩
   have hj':=(List.getElem?_eq_some_iff.1 hj).1
   obtain ⟨m,hm⟩:∃m,i=k+1+m:=⟨i-k-1,by omega⟩
   subst hm
   have e1:(k+1+m)*sz=k*sz+sz+m*sz:=by rw [Nat.add_mul,Nat.add_mul,Nat.one_mul]
   have e2:(k+1+m-1)*sz=k*sz+m*sz:=by rw [show k+1+m-1=k+m by omega,Nat.add_mul]
   have:=y3 j x hj
   rw [e2] at this
   have hlt:k*sz+m*sz+j<ls.length*sz:=by
    have:(k+m+1)*sz<=ls.length*sz:=Nat.mul_le_mul_right _ (by omega)
    rw [Nat.add_mul,Nat.add_mul,Nat.one_mul] at this
    omega
   rw [List.getElem?_append_right (by omega),t1,List.append_assoc,List.getElem?_append_right (by omega),hx,List.getElem?_append_left (by omega),List.getElem?_drop,List.getElem?_take,if_pos (by omega)]
   rw [show k*sz+((k+1+m)*sz+j-k*sz-sz)=k*sz+m*sz+j by omega]
   exact this
theorem qN {α:Type}{sz:Nat}{R:View->Value->α->Prop}{V:View}{p:OA}{n:Nat}{ls:List α}(h:lu sz R V p n ls)(hs:0<sz):∃xs:List Value,V.sl p xs/\xs.length=ls.length*sz/\Row sz R V xs ls:=by
 have step:∀k,k<=ls.length->∃xs:List Value,V.sl p xs/\xs.length=k*sz/\Row sz R V xs (ls.take k):=by
  intro k
  induction k with
  | zero=>exact fun _=>⟨[],fun i v hv=>by simp at hv,by simp,by rw [List.take_zero];exact Row.nil⟩
  | succ k ih=>
   intro hk
   obtain ⟨xs,x1,x2,x3⟩:=ih (by omega)
   obtain ⟨ad,ha,ys,y1,y2,y3⟩:=h.at_ k (by omega)
   have hl:(ls.take k).length=k:=by rw [List.length_take];omega
   refine ⟨xs++ys,fun i v hv=>?_,by rw [List.length_append,x2,y1,Nat.succ_mul],?_⟩
   ·by_cases c:i<xs.length
    ·rw [List.getElem?_append_left c] at hv;exact x1 i v hv
    ·rw [List.getElem?_append_right (by omega)] at hv
     cases p with
     | none=>cases ha
     | some a=>
      obtain rfl:=Option.some.inj (show some (a.add (k*sz))=some ad from ha)
      have:=y3 _ v hv
      rw [tH,x2] at this
      rw [show k*sz+(i-k*sz)=i by omega] at this
      exact ⟨a,rfl,this⟩
   ·have:=x3.snoc (sp:=[]) y1 y2 hs
    rw [hl,List.append_nil,List.take_of_length_le (by omega)] at this
    rw [List.take_add_one,List.getElem?_eq_getElem (by omega)]
    exact this
 obtain ⟨xs,x1,x2,x3⟩:=step ls.length (Nat.le_refl _)
 rw [List.take_length] at x3
 exact ⟨xs,x1,x2,x3⟩
theorem oq {α:Type}{sz:Nat}{R:View->Value->α->Prop}{V:View}{vs xs sp:List Value}{ls ms:List α}(h:Row sz R V vs ls)(h':Row sz R V xs ms)(hs:0<sz):Row sz R V (vs.take (ls.length*sz)++xs++sp) (ls++ms):=by
 have hl:=h.eY hs
 have hl':=h'.eY hs
 have ht:(vs.take (ls.length*sz)).length=ls.length*sz:=by rw [List.length_take];omega
 refine ⟨fun i hi=>?_⟩
 by_cases c:i<ls.length
 ·obtain ⟨ys,y1,y2,y3⟩:=h.at_ i c
  refine ⟨ys,y1,by rw [List.getElem_append_left c];exact y2,fun j x hj=>?_⟩
  have hj':=(List.getElem?_eq_some_iff.1 hj).1
  have hlt:i*sz+j<ls.length*sz:=by
   have:(i+1)*sz<=ls.length*sz:=Nat.mul_le_mul_right _ c
   rw [Nat.succ_mul] at this
   omega
  rw [List.append_assoc,List.getElem?_append_left (by omega),List.getElem?_take,if_pos hlt]
  exact y3 j x hj
 ·rw [List.length_append] at hi
  obtain ⟨m,rfl⟩:∃m,i=ls.length+m:=⟨i-ls.length,by omega⟩
  have hm:m<ms.length:=by omega
  obtain ⟨ys,y1,y2,y3⟩:=h'.at_ m hm
  refine ⟨ys,y1,?_,fun j x hj=>?_⟩
  ·have e:(ls++ms)[ls.length+m]=ms[m]:=by rw [List.getElem_append_right (by omega)];simp
   rw [e];exact y2
  ·have hj':=(List.getElem?_eq_some_iff.1 hj).1
   have hlt:m*sz+j<xs.length:=by
    have:(m+1)*sz<=ms.length*sz:=Nat.mul_le_mul_right _ hm
    rw [Nat.succ_mul] at this
    omega
   rw [List.append_assoc,List.getElem?_append_right (by rw [ht,Nat.add_mul];omega),ht,Nat.add_mul,List.getElem?_append_left (by omega)]
   rw [show ls.length*sz+m*sz+j-ls.length*sz=m*sz+j by omega]
   exact y3 j x hj
theorem kU {α:Type}{sz:Nat}{R:View->Value->α->Prop}{V:View}{vs:List Value}{al:List α}(h:Row sz R V vs al)(hs:0<sz)(hc:∀xs a,R V (.agg (List.toArray xs)) a->∀v∈xs,v.oneCell'=true){m:Nat}(hm:m<al.length*sz){v:Value}(hv:vs[m]?=some v):v.oneCell'=true:=by
 have hi:m / sz<al.length:=Nat.div_lt_of_lt_mul (by rw [Nat.mul_comm];exact hm)
 obtain ⟨xs,hl,hx,hat⟩:=h.at_ (m / sz) hi
 have hlt:m%sz<xs.length:=by rw [hl];exact Nat.mod_lt _ hs
 have e3:m=m / sz*sz+m%sz:=by rw [Nat.mul_comm];exact (Nat.div_add_mod m sz).symm
 have:=hat (m%sz) _ (List.getElem?_eq_getElem hlt)
 rw [←e3,hv] at this
 obtain rfl:=Option.some.inj this
 exact hc xs _ hx _ (List.getElem_mem hlt)
structure Rn where
 b1:Bool
 xs:List Nat
 b2:Bool
 ys:List Nat
 b3:Bool
 zs:List Nat
 left:Int
 right:Int
def Eh (V:View)(v:Value)(r:Rn):Prop:=∃p1 n1 c1 p2 n2 c2 p3 n3 c3,v=.agg #[.bool r.b1,.slice p1 n1 c1,.bool r.b2,.slice p2 n2 c2,.bool r.b3,.slice p3 n3 c3,.int .i64 r.left,.int .i64 r.right] /\
 RD V p1 n1 c1 r.xs/\RD V p2 n2 c2 r.ys/\RD V p3 n3 c3 r.zs
theorem Eh.le {V V':View}{v:Value}{r:Rn}(h:Eh V v r)(l:V.Le V'):Eh V' v r:=by
 obtain ⟨_,_,_,_,_,_,_,_,_,e,h1,h2,h3⟩:=h
 exact ⟨_,_,_,_,_,_,_,_,_,e,h1.le l,h2.le l,h3.le l⟩
def Rn.short (r:Rn):Prop:=r.xs.length<=3/\r.ys.length<=3/\r.zs.length<=3
def Rn.nd (r:Rn):Nd:=⟨if iX r.b1 r.xs r.b2 r.ys r.b3 r.zs then CS r.b1 r.xs r.b2 r.ys r.b3 r.zs else (0,0,0),r.left,r.right⟩
theorem mO {b:Bool}{xs:List Nat}(hd:bD xs)(h:xs.length<=3):(ay b xs).natAbs<2^96:=by
 have h1:=dQ hd
 have h2:4294967296^xs.length<=4294967296^3:=Nat.pow_le_pow_right (by omega) (by omega)
 have h4:4294967296^3=2^96:=by decide
 have h3:(ay b xs).natAbs=val xs:=by unfold ay;split<;>simp
 omega
theorem Jc {a b:Nat}(h:a<=b):2^a<=2^b:=Nat.pow_le_pow_right (by omega) h
theorem Rn.bd {V:View}{v:Value}{r:Rn}(h:Eh V v r)(hs:r.short):Bd r.nd.ln:=by
 obtain ⟨_,_,_,_,_,_,_,_,_,e,h1,h2,h3⟩:=h
 have le:=Jc (a:=96) (b:=1000) (by omega)
 have a1:=mO (b:=r.b1) h1.cN hs.1
 have a2:=mO (b:=r.b2) h2.cN hs.2.1
 have a3:=mO (b:=r.b3) h3.cN hs.2.2
 have z:=Nat.two_pow_pos 1000
 unfold Rn.nd Bd
 dsimp only
 split
 ·unfold CS;dsimp only;exact ⟨Nat.lt_of_lt_of_le a1 le,Nat.lt_of_lt_of_le a2 le,Nat.lt_of_lt_of_le a3 le⟩
 ·exact ⟨z,z,z⟩
theorem Oe {V:View}{b1:Bool}{p1:OA}{n1 c1:Nat}{xs:List Nat}{b2:Bool}{p2:OA}{n2 c2:Nat}{ys:List Nat}{b3:Bool}{p3:OA}{n3 c3:Nat}{zs:List Nat}(ho:iX b1 xs b2 ys b3 zs=true)(h1:RD V p1 n1 c1 xs)(h2:RD V p2 n2 c2 ys)(h3:RD V p3 n3 c3 zs) :
  RL V (.agg #[.bool b1,.slice p1 n1 c1,.bool b2,.slice p2 n2 c2,.bool b3,.slice p3 n3 c3]) (CS b1 xs b2 ys b3 zs).1 (CS b1 xs b2 ys b3 zs).2.1 (CS b1 xs b2 ys b3 zs).2.2:=by
 rw [lZ] at ho
 simp only [Bool.and_eq_true] at ho
 obtain ⟨⟨⟨o1,o2⟩,o3⟩,-⟩:=ho
 obtain ⟨e1,f1⟩:=zk o1
 obtain ⟨e2,f2⟩:=zk o2
 obtain ⟨e3,f3⟩:=zk o3
 unfold CS
 dsimp only
 refine ⟨p1,n1,c1,p2,n2,c2,p3,n3,c3,?_,by rw [←f1];exact h1,by rw [←f2];exact h2,by rw [←f3];exact h3⟩
 rw [←e1,←e2,←e3]
theorem Rn.VD {V:View}{v:Value}{r:Rn}(h:Eh V v r)(hs:r.short){c:Fin 8->Value}(hv:v=.agg #[c 0,c 1,c 2,c 3,c 4,c 5,c 6,c 7]):FC V (.agg #[c 0,c 1,c 2,c 3,c 4,c 5]) r.nd.ln/\c 6=.int .i64 r.left/\c 7=.int .i64 r.right:=by
 obtain ⟨p1,n1,c1,p2,n2,c2,p3,n3,c3,e,h1,h2,h3⟩:=h
 have a1:=mO (b:=r.b1) h1.cN hs.1
 have a2:=mO (b:=r.b2) h2.cN hs.2.1
 have a3:=mO (b:=r.b3) h3.cN hs.2.2
 rw [hv] at e
 have e:=congrArg Array.toList (Value.agg.inj e)
 simp only [List.cons.injEq,and_true] at e
 obtain ⟨e0,e1,e2,e3,e4,e5,e6,e7⟩:=e
 refine ⟨?_,e6,e7⟩
 rw [e0,e1,e2,e3,e4,e5]
 unfold Rn.nd
 dsimp only
 cases ho:iX r.b1 r.xs r.b2 r.ys r.b3 r.zs
 ·rw [if_neg (by decide)]
  refine .inr ⟨by decide,_,_,_,_,_,_,_,_,_,_,_,_,_,_,_,rfl,h1,h2,h3,ho,⟨by have:=hs.1;omega,by have:=hs.2.1;omega,by have:=hs.2.2;omega⟩,(kZ a1 (by omega)).mono (by omega),(kZ a2 (by omega)).mono (by omega),(kZ a3 (by omega)).mono (by omega)⟩
 ·rw [if_pos rfl]
  exact .inl (Oe ho h1 h2 h3)
theorem NS.KX {V:View}{p:OA}{n c:Nat}{rs:List Rn}(h:lu 8 Eh V p n rs)(hs:∀r∈rs,r.short)(hc:n<=c)(hn:p.isNone=true->c=0):NS V p n c (rs.map Rn.nd)/\∀x∈rs.map Rn.nd,Bd x.ln:=by
 have hl:=h.len
 constructor
 ·obtain ⟨vs,v1,-,v3⟩:=qN h (by decide)
  refine ⟨by rw [List.length_map];exact hl,hc,⟨vs,v1,fun i d hd=>?_⟩,hn⟩
  rw [List.getElem?_map] at hd
  cases hr:rs[i]? with
  | none=>rw [hr] at hd;cases hd
  | some r=>
   rw [hr] at hd
   cases hd
   obtain ⟨hi,e⟩:=List.getElem?_eq_some_iff.1 hr
   obtain ⟨xs,x1,x2,x3⟩:=v3.at_ i hi
   rw [e] at x2
   have x20:=x2
   obtain ⟨p1,n1,c1,p2,n2,c2,p3,n3,c3,ex,-⟩:=x2
   have ex:=congrArg Array.toList (Value.agg.inj ex)
   dsimp only at ex
   subst ex
   have hq:=(Rn.VD x20 (hs r (List.mem_of_getElem? hr)) (c:=fun k=>([.bool r.b1,.slice p1 n1 c1,.bool r.b2,.slice p2 n2 c2,.bool r.b3,.slice p3 n3 c3,.int .i64 r.left,.int .i64 r.right]:List Value).getD k.1 .nilIface) rfl).1
   exact ⟨_,_,_,_,_,_,_,_,_,_,_,_,fun j v hj=>x3 j v hj,hq⟩
 ·intro x hx
  obtain ⟨r,hr,rfl⟩:=List.mem_map.1 hx
  obtain ⟨i,hi,rfl⟩:=List.mem_iff_getElem.1 hr
  obtain ⟨ad,-,xs,-,h2,-⟩:=h.at_ i hi
  exact Rn.bd h2 (hs _ hr)
theorem Of {V:View}{p:OA}{n:Nat}{rs:List Rn}(h:lu 8 Eh V p n rs){i:Nat}(hi:i<rs.length) :
  p.isSome=true/\∃p1 n1 c1 p2 n2 c2 p3 n3 c3 a,ag p (i*8)=some a/\V.at (a.add 0) (.bool rs[i].b1)/\V.at (a.add 1) (.slice p1 n1 c1)/\V.at (a.add 2) (.bool rs[i].b2)/\V.at (a.add 3) (.slice p2 n2 c2)/\V.at (a.add 4) (.bool rs[i].b3)/\V.at (a.add 5) (.slice p3 n3 c3)/\V.at (a.add 6) (.int .i64 rs[i].left)/\V.at (a.add 7) (.int .i64 rs[i].right) /\
   n1=rs[i].xs.length/\n2=rs[i].ys.length/\n3=rs[i].zs.length:=by
 obtain ⟨ad,h0,xs,h1,h2,h3⟩:=h.at_ i hi
 obtain ⟨p1,n1,c1,p2,n2,c2,p3,n3,c3,e,d1,d2,d3⟩:=h2
 have e:=congrArg Array.toList (Value.agg.inj e)
 dsimp only at e
 subst e
 refine ⟨?_,p1,n1,c1,p2,n2,c2,p3,n3,c3,ad,h0,h3 0 _ rfl,h3 1 _ rfl,h3 2 _ rfl,h3 3 _ rfl,h3 4 _ rfl,h3 5 _ rfl,h3 6 _ rfl,h3 7 _ rfl,d1.len,d2.len,d3.len⟩
 cases p with
 | none=>cases h0
 | some a=>rfl
end Go.Proofs.Tryz
namespace Go.Proofs.YthpmdmkmfoaamaaGreatDoor
open Go.ChangeShapes Go.WideShapes Go.ChangeAt Go.RowKit Go.bz Go.eM Go.Proofs.Tryz
section
variable {H:Type} {enc:TypeId × Value->H} {W:World} {fuel:Nat}
theorem Jv {α:Type}{xs:List α}{i:Nat}{o:Option α}(h:o=xs[i]?)(hi:i<xs.length):∃y,o=some y:=⟨xs[i],by rw [h,List.getElem?_eq_getElem hi]⟩
theorem cz {H:Type}{enc:TypeId×Value->H}{W:World}{fs:Array Field}{cs:List Value}{xs:List (DataW H×List MemPlace)}{m:Nat}(hf:∀(i:Nat)(f:Field),fs[i]?=some f->DataW.trod enc Tryz.prog W 0 (fun _=>true) true m f.type ((cs.drop f.offset).take (Tryz.prog.cellsOf f.type))=xs[i]?)(hl:xs.length=fs.size)(i:Nat){f:Field}(hi:fs[i]?=some f){n:Nat}(hn:Tryz.prog.cellsOf f.type=n) :
  ∃y,DataW.trod enc Tryz.prog W 0 (fun _=>true) true m f.type ((cs.drop f.offset).take n)=some y:=by
 have:=hf i f hi
 rw [hn] at this
 have lt:i<xs.length:=by
  rw [hl]
  exact (Array.getElem?_eq_some_iff.1 hi).1
 exact Jv this lt
set_option maxRecDepth 100000 in
theorem H_ {c:Value}{y:DataW H×List MemPlace}(h:DataW.trod enc Tryz.prog W 0 (fun _=>true) true fuel 4 [c]=some y):∃b,c=.bool b:=by
 obtain ⟨b,e,-⟩:=DataW.trod_bool Tryz.underlying4 h
 exact ⟨b,by simpa using e⟩
set_option maxRecDepth 100000 in
theorem GW {c:Value}{y:DataW H×List MemPlace}(h:DataW.trod enc Tryz.prog W 0 (fun _=>true) true fuel 44 [c]=some y):∃p n k ds,c=.slice p n k/\RD (View.all W) p n k ds:=by
 rcases open_ints Tryz.underlying44 Tryz.underlying186 (show Tryz.prog.cellsOf 186=1 by kernel_rfl) h with ⟨e,-⟩|⟨a,len,cap,zs,e,_,hl,-,hz,-,hcell,hwf⟩
 ·exact ⟨none,0,0,[],by simpa using e,RD.nil⟩
 ·simp only [if_true] at hz
  have hd:∀z∈zs,0<=z/\z<4294967296:=fun z hm=>by
   have:=hwf z hm
   simp only [Lit.wf,Bool.and_eq_true,decide_eq_true_eq] at this
   have h1:IntKind.min .u32=0:=by decide
   have h2:IntKind.max .u32=4294967295:=by decide
   rw [h1,h2] at this
   exact ⟨this.1,by omega⟩
  refine ⟨some a,len,cap,(zs.take len).map Int.toNat,by simpa using e,?_,hl,?_,?_,(fun h=>nomatch h)⟩
  ·simp;omega
  ·intro i v hv
   simp only [aH,List.map_map,List.getElem?_map,Option.map_eq_some_iff] at hv
   obtain ⟨z,hz1,rfl⟩:=hv
   rw [List.getElem?_take] at hz1
   split at hz1
   ·rename_i hi
    have hi':i<zs.length:=by omega
    rw [List.getElem?_eq_getElem hi'] at hz1
    have hz1:=Option.some.inj hz1
    have:=hcell i hi'
    rw [List.getD_eq_getElem?_getD,List.getElem?_eq_getElem hi'] at this
    simp only [Option.getD_some] at this
    have hm:=hd _ (List.getElem_mem hi')
    refine ⟨a,rfl,fun h=>h,?_⟩
    show W.cell? (a.add i)=_
    rw [this,hz1]
    have:((z.toNat:Nat):Int)=z:=Int.toNat_of_nonneg (hz1▸hm.1)
    simp only [Function.comp]
    rw [this]
   ·cases hz1
  ·intro d hm
   simp only [List.mem_map] at hm
   obtain ⟨z,hz1,rfl⟩:=hm
   have:=hd z (List.mem_of_mem_take hz1)
   omega
set_option maxRecDepth 100000 in
theorem zc {c0 c1:Value}{y:DataW H×List MemPlace}(h:DataW.trod enc Tryz.prog W 0 (fun _=>true) true fuel 46 [c0,c1]=some y):∃b p n k ds,c0=.bool b/\c1=.slice p n k/\RD (View.all W) p n k ds:=by
 obtain ⟨xs,m,-,-,-,hl,hf⟩:=DataW.trod_struct Tryz.underlying46 h
 obtain ⟨y0,h0⟩:=cz hf hl 0 rfl (show Tryz.prog.cellsOf 4=1 by kernel_rfl)
 obtain ⟨y1,h1⟩:=cz hf hl 1 rfl (show Tryz.prog.cellsOf 44=1 by kernel_rfl)
 obtain ⟨b,rfl⟩:=H_ h0
 obtain ⟨p,n,k,ds,rfl,hd⟩:=GW h1
 exact ⟨b,p,n,k,ds,rfl,rfl,hd⟩
set_option maxRecDepth 100000 in
theorem Hm {c0 c1 c2:Value}{y:DataW H×List MemPlace}(h:DataW.trod enc Tryz.prog W 0 (fun _=>true) true fuel 48 [c0,c1,c2]=some y):∃b xs ys,Ci (View.all W) (.agg #[c0,c1,c2]) b xs ys/\∃p n k p' n' k',c0=.bool b/\c1=.slice p n k/\c2=.slice p' n' k':=by
 obtain ⟨xs,m,-,-,-,hl,hf⟩:=DataW.trod_struct Tryz.underlying48 h
 obtain ⟨y0,h0⟩:=cz hf hl 0 rfl (show Tryz.prog.cellsOf 46=2 by kernel_rfl)
 obtain ⟨y1,h1⟩:=cz hf hl 1 rfl (show Tryz.prog.cellsOf 44=1 by kernel_rfl)
 obtain ⟨b,p,n,k,ds,rfl,rfl,hd⟩:=zc h0
 obtain ⟨p',n',k',ds',rfl,hd'⟩:=GW h1
 exact ⟨b,ds,ds',⟨_,_,_,_,_,_,rfl,hd,hd'⟩,_,_,_,_,_,_,rfl,rfl,rfl⟩
set_option maxRecDepth 100000 in
theorem I2 {c0 c1 c2 c3 c4 c5:Value}{y:DataW H×List MemPlace}(h:DataW.trod enc Tryz.prog W 0 (fun _=>true) true fuel 74 [c0,c1,c2,c3,c4,c5]=some y):∃b1 xs b2 ys b3 zs,LC (View.all W) (.agg #[c0,c1,c2,c3,c4,c5]) b1 xs b2 ys b3 zs/\∃p n k p' n' k' p2 n2 k2,c0=.bool b1/\c1=.slice p n k/\c2=.bool b2/\c3=.slice p' n' k'/\c4=.bool b3/\c5=.slice p2 n2 k2:=by
 obtain ⟨xs,m,-,-,-,hl,hf⟩:=DataW.trod_struct Tryz.underlying74 h
 obtain ⟨y0,h0⟩:=cz hf hl 0 rfl (show Tryz.prog.cellsOf 46=2 by kernel_rfl)
 obtain ⟨y1,h1⟩:=cz hf hl 1 rfl (show Tryz.prog.cellsOf 46=2 by kernel_rfl)
 obtain ⟨y2,h2⟩:=cz hf hl 2 rfl (show Tryz.prog.cellsOf 46=2 by kernel_rfl)
 obtain ⟨b1,p1,n1,k1,d1,rfl,rfl,g1⟩:=zc h0
 obtain ⟨b2,p2,n2,k2,d2,rfl,rfl,g2⟩:=zc h1
 obtain ⟨b3,p3,n3,k3,d3,rfl,rfl,g3⟩:=zc h2
 exact ⟨b1,d1,b2,d2,b3,d3,⟨_,_,_,_,_,_,_,_,_,rfl,g1,g2,g3⟩,_,_,_,_,_,_,_,_,_,rfl,rfl,rfl,rfl,rfl,rfl⟩
set_option maxRecDepth 100000 in
theorem CN {c:Value}{y:DataW H×List MemPlace}(h:DataW.trod enc Tryz.prog W 0 (fun _=>true) true fuel 3 [c]=some y):∃z,c=.int .i64 z:=by
 obtain ⟨z,e,-⟩:=DataW.trod_int Tryz.underlying3 h
 exact ⟨z,by simpa using e⟩
set_option maxRecDepth 100000 in
theorem I7 {c0 c1 c2 c3 c4 c5 c6 c7:Value}{y:DataW H×List MemPlace}(h:DataW.trod enc Tryz.prog W 0 (fun _=>true) true fuel 76 [c0,c1,c2,c3,c4,c5,c6,c7]=some y):∃r:Rn,Eh (View.all W) (.agg #[c0,c1,c2,c3,c4,c5,c6,c7]) r:=by
 obtain ⟨us,m,-,-,-,hl,hf⟩:=DataW.trod_struct Tryz.underlying76 h
 obtain ⟨y0,h0⟩:=cz hf hl 0 rfl (show Tryz.prog.cellsOf 74=6 by kernel_rfl)
 obtain ⟨y1,h1⟩:=cz hf hl 1 rfl (show Tryz.prog.cellsOf 3=1 by kernel_rfl)
 obtain ⟨y2,h2⟩:=cz hf hl 2 rfl (show Tryz.prog.cellsOf 3=1 by kernel_rfl)
 obtain ⟨b1,xs,b2,ys,b3,zs,g,-⟩:=I2 h0
 obtain ⟨z1,rfl⟩:=CN h1
 obtain ⟨z2,rfl⟩:=CN h2
 obtain ⟨p1,n1,k1,p2,n2,k2,p3,n3,k3,e,g1,g2,g3⟩:=g
 have e:=congrArg Array.toList (Value.agg.inj e)
 simp only [List.cons.injEq,and_true] at e
 obtain ⟨rfl,rfl,rfl,rfl,rfl,rfl⟩:=e
 exact ⟨⟨b1,xs,b2,ys,b3,zs,z1,z2⟩,p1,n1,k1,p2,n2,k2,p3,n3,k3,rfl,g1,g2,g3⟩
end
theorem cJ {α:Type}{l:List α}{n:Nat}(h:l.length=n+1):∃a r,l=a::r/\r.length=n:=by
 cases l with
 | nil=>simp at h
 | cons a r=>exact ⟨a,r,rfl,by simpa using h⟩
theorem I3 {α:Type}{P:Nat->α->Prop}(n:Nat)(h:∀i,i<n->∃a,P i a):∃l:List α,l.length=n/\∀i (hi:i<l.length),P i l[i]:=by
 induction n with
 | zero=>exact ⟨[],rfl,fun i hi=>absurd hi (Nat.not_lt_zero i)⟩
 | succ n ih=>
  obtain ⟨l,hl,hp⟩:=ih fun i hi=>h i (by omega)
  obtain ⟨a,ha⟩:=h n (by omega)
  refine ⟨l++[a],by simp [hl],fun i hi=>?_⟩
  rw [List.length_append,List.length_singleton] at hi
  by_cases e:i<l.length
  ·rw [List.getElem_append_left e];exact hp i e
  ·obtain rfl:i=l.length:=by omega
   rw [List.getElem_append_right (Nat.le_refl _)]
   simpa [hl] using ha
theorem zf {α:Type}{sz:Nat}{R:View->Value->α->Prop}{H:Type}{enc:TypeId×Value->H}{W:World}{t e:TypeId}{fuel:Nat}{c1:Value}{y:DataW H×List MemPlace}(ht:Tryz.prog.underlying t=some (.slice e))(hc:Tryz.prog.cellsOf e=sz)
  (each:∀(fuel:Nat)(cs:List Value)(y:DataW H×List MemPlace),cs.length=sz->DataW.trod enc Tryz.prog W 0 (fun _=>true) true fuel e cs=some y->∃a:α,R (View.all W) (.agg cs.toArray) a)
  (h:DataW.trod enc Tryz.prog W 0 (fun _=>true) true fuel t [c1]=some y):∃p n c,c1=.slice p n c/\n<=c/\(p.isNone=true->c=0)/\∃l:List α,lu sz R (View.all W) p n l:=by
 rcases Go.Deep.open_slice ht h with ⟨hcs,-⟩|⟨a,len,cap,m,k,D,Pl,hcs,-,hl,-,hm,-,hx⟩
 ·exact ⟨none,0,0,by simpa using hcs,Nat.le_refl _,fun _=>rfl,[],lu.nil⟩
 ·simp only [if_true] at hm
  subst hm
  refine ⟨some a,len,_,by simpa using hcs,hl,(fun h=>by cases h),?_⟩
  have key:∀i,i<len->∃x:α,∃cs:List Value,cs.length=sz/\R (View.all W) (.agg cs.toArray) x/\∀j v,cs[j]?=some v->(View.all W).at ((a.add (i*sz)).add j) v:=by
   intro i hi
   obtain ⟨cs,h1,h2⟩:=hx i (by omega)
   rw [hc] at h1
   unfold World.cells? at h1
   rw [if_pos (Nat.zero_le _)] at h1
   have h3:cs.length=sz:=by simpa using mapM_some_length h1
   obtain ⟨x,h4⟩:=each k cs _ h3 h2
   refine ⟨x,cs,h3,h4,fun j v hj=>?_⟩
   have hj':j<sz:=by rw [←h3];exact (List.getElem?_eq_some_iff.1 hj).1
   have:=mapM_some_get h1 j j (by simp [hj'])
   exact ⟨fun h=>h,by show W.cell? _=_;rw [this];exact hj⟩
  obtain ⟨l,hl2,hp⟩:=I3 len key
  refine ⟨l,hl2.symm,fun i hi=>?_⟩
  obtain ⟨cs,h3,h4,h5⟩:=hp i hi
  exact ⟨a.add (i*sz),rfl,cs,h3,h4,h5⟩
set_option maxRecDepth 100000 in
theorem EX {H:Type}{enc:TypeId×Value->H}{W:World}(fuel:Nat)(cs:List Value)(y:DataW H×List MemPlace)(hl:cs.length=8)(h:DataW.trod enc Tryz.prog W 0 (fun _=>true) true fuel 76 cs=some y):∃r:Rn,Eh (View.all W) (.agg cs.toArray) r:=by
 obtain ⟨c0,r0,rfl,z0⟩:=cJ hl
 obtain ⟨c1,r1,rfl,z1⟩:=cJ z0
 obtain ⟨c2,r2,rfl,z2⟩:=cJ z1
 obtain ⟨c3,r3,rfl,z3⟩:=cJ z2
 obtain ⟨c4,r4,rfl,z4⟩:=cJ z3
 obtain ⟨c5,r5,rfl,z5⟩:=cJ z4
 obtain ⟨c6,r6,rfl,z6⟩:=cJ z5
 obtain ⟨c7,r7,rfl,z7⟩:=cJ z6
 obtain rfl:=List.length_eq_zero_iff.1 z7
 exact I7 h
set_option maxRecDepth 100000 in
theorem HK {H:Type}{enc:TypeId×Value->H}{W:World}{r:Reach}{b0:Nat}{v:Value}{d:DataW H}{p:List MemPlace}(hv:Value.okWide Tryz.prog W r b0 42 v)(h:DataW.Trod enc Tryz.prog W 0 (fun _=>true) true 42 v d p) :
  ∃root q n c rs,v=.agg #[.int .i64 root,.slice q n c]/\n<=c/\(q.isNone=true->c=0)/\lu 8 Eh (View.all W) q n rs:=by
 obtain ⟨⟨cs⟩,rfl,hsz⟩:=okWide_struct Tryz.underlying42 hv
 have hsz:cs.length=2:=hsz.trans (by kernel_rfl)
 obtain ⟨c0,r0,rfl,z0⟩:=cJ hsz
 obtain ⟨c1,r1,rfl,z1⟩:=cJ z0
 obtain rfl:=List.length_eq_zero_iff.1 z1
 obtain ⟨fuel,hf⟩:=h
 obtain ⟨us,m,-,-,-,hl,SW⟩:=DataW.trod_struct Tryz.underlying42 hf
 obtain ⟨y0,h0⟩:=cz SW hl 0 rfl (show Tryz.prog.cellsOf 3=1 by kernel_rfl)
 obtain ⟨y1,h1⟩:=cz SW hl 1 rfl (show Tryz.prog.cellsOf 40=1 by kernel_rfl)
 obtain ⟨root,rfl⟩:=CN h0
 obtain ⟨q,n,c,rfl,hc,hn,rs,hr⟩:=zf Tryz.underlying40 (show Tryz.prog.cellsOf 76=8 by kernel_rfl) EX h1
 exact ⟨root,q,n,c,rs,rfl,hc,hn,hr⟩
end Go.Proofs.YthpmdmkmfoaamaaGreatDoor
