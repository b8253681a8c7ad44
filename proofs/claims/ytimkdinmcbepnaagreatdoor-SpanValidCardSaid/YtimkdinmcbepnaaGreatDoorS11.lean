/- A part of the proof (joined by program from: NumB, NumC, NumD, NumP, NumE, NumF, NumG, VNumQ, NumH, NumI, NumJ, VRef). -/
import Derived.Test.YtimkdinmcbepnaaGreatDoorS10
import Derived.Test.YtimkdinmcbepnaaGreatDoorS5
import Derived.Test.YtimkdinmcbepnaaGreatDoorS8
import Derived.Test.YtimkdinmcbepnaaGreatDoorS9
set_option linter.unusedVariables false
open Go.IntKind (i64 u64 u32)
/- Contracts of the reference's numbers: Product, word, Left. -/
namespace Go.Proofs.Tryz
open Go.Eng Go.Big
theorem rdOne {V:View} {p:OA} {n c:Nat} {ds:List Nat} (h:RD V p n c ds) {K:Int->Prop} (hn:0 < ds.length)
  (hK:K ((ds[0]:Nat):Int)):(p.isSome=true)/\(0<=(0:Int)/\(0:Int) < (n:Int))/\∃x:Int,(∃a,addrAdd p 0=some a/\V.at a (.int .u32 x))/\K x:=by
 have:=h.rd (i:=0) (K:=K) 0 rfl hn hK
 simpa using this
theorem rdAt {V:View} {p:OA} {n c:Nat} {ds:List Nat} (h:RD V p n c ds) {K:Int->Prop} (j:Nat) (hn:j < ds.length)
  (hK:K ((ds[j]:Nat):Int)):(p.isSome=true)/\(0<=(j:Int)/\(j:Int) < (n:Int))/\∃x:Int,(∃a,addrAdd p j=some a/\V.at a (.int .u32 x))/\K x:=by
 have:=h.rd (i:=j) (K:=K) j rfl hn hK
 simpa using this
theorem one_of_len {ds:List Nat} (h:ds.length=1):∃a,ds=[a]:=by
 match ds,h with
 | [a],_=>exact ⟨a,rfl⟩
theorem two_of_len {ds:List Nat} (h:ds.length=2):∃a b,ds=[a,b]:=by
 match ds,h with
 | [a,b],_=>exact ⟨a,b,rfl⟩
theorem c_num_Product {V:View} {p q:OA} {n c m e:Nat} {xs ys:List Nat} (hx:RD V p n c xs) (hy:RD V q m e ys) (hm:xs.length + ys.length<=1099511627776) :
  Acts prog 84 #[.slice p n c,.slice q m e] V fun r V'=>∃p' n' c',r=.slice p' n' c'/\RN V' p' n' c' (val xs * val ys):=by
 have hlx:=hx.len
 have hly:=hy.len
 have hnm':((n:Int) + m).toNat=n + m:=by omega
 have w:i64.wrap ((n:Int) + m)=(n:Int) + m:=i64w (by omega)
 have vc:=vc_num_Product p n c q m e V
 simp only [w,hnm',u32s_rep] at vc
 refine (fun tail=>vc _ ⟨fun h0=>⟨fun h1=>?_,fun _=>tail⟩,fun _=>tail⟩) ?_
 ·have h0:n=1:=by simp at h0; omega
  have h1:m=1:=by simp at h1; omega
  clear tail vc
  obtain ⟨a,rfl⟩:=one_of_len (ds:=xs) (by omega)
  obtain ⟨b,rfl⟩:=one_of_len (ds:=ys) (by omega)
  have hdx:=hx.dig.get (i:=0) (by simp)
  have hdy:=hy.dig.get (i:=0) (by simp)
  refine rdOne hx (by simp) (rdOne hy (by simp) fun V1 l1=>?_)
  simp only [List.getElem_cons_zero] at hdx hdy ⊢
  have hab:a * b<=4294967295 * 4294967295:=Nat.mul_le_mul (by omega) (by omega)
  have e1:u64.wrap (a:Int)=a:=u64w (by omega)
  have e2:u64.wrap (b:Int)=b:=u64w (by omega)
  have e3:(a:Int) * (b:Int)=((a * b:Nat):Int):=by simp
  have e4:u64.wrap ((a * b:Nat):Int)=((a * b:Nat):Int):=u64w (by omega)
  rw [e1,e2,e3,e4]
  refine (c_num_Word (a * b) (by omega)).mono ?_
  rintro r V2 l2 ⟨p',n',c',rfl,h⟩
  refine ⟨_,_,_,rfl,fun V3 l3=>⟨_,_,_,rfl,?_⟩⟩
  simp only [val_cons,val_nil,Nat.mul_zero,Nat.add_zero]
  exact h.le l3
 refine ⟨by omega,by omega,by omega,fun z V'=>0<=z.1/\z.1<=n/\∃es:List Nat,z.2=u32s es/\es.length=n + m/\Dig es /\
  val (es.take (z.1.toNat + m))=val (xs.take z.1.toNat) * val ys,fun z=>n - z.1.toNat,⟨(0,u32s (List.replicate (n + m) 0)),by (try dsimp only); and_intros <;> first | exact True.intro | rfl,by (try dsimp only); omega,by (try dsimp only); omega,_,rfl,by simp,Dig.rep _,by simp [val_rep,List.take_replicate]⟩,?_⟩
 rintro ⟨i,vs⟩ V5 l5 ⟨hi0,hi1,es,rfl,hes,hde,hv⟩
 dsimp only at hi0 hi1 hv ⊢
 obtain ⟨i,rfl⟩:=Int.eq_ofNat_of_zero_le hi0
 simp only [Int.toNat_natCast] at hv
 refine ⟨by trivial,fun h3=>?_,fun h3=>?_⟩
 ·have h3:i < n:=by simpa using h3
  refine (hx.le l5).rd i rfl (by omega) ?_
  have hdx:=hx.dig.get (i:=i) (by omega)
  refine ⟨fun z V'=>0<=z.1/\z.1<=4294967295/\0<=z.2.1/\z.2.1<=m/\∃fs:List Nat,z.2.2=u32s fs/\fs.length=n + m/\Dig fs/\fs.drop (i + z.2.1.toNat)=es.drop (i + z.2.1.toNat) /\
   val (fs.take (i + z.2.1.toNat)) + 4294967296 ^ (i + z.2.1.toNat) * z.1.toNat=val (es.take (i + z.2.1.toNat)) + 4294967296 ^ i * xs[i] * val (ys.take z.2.1.toNat),fun z=>m - z.2.1.toNat,
   ⟨(0,0,u32s es),by (try dsimp only); and_intros <;> first | exact True.intro | rfl,by (try dsimp only); omega,by (try dsimp only); omega,by (try dsimp only); omega,by (try dsimp only); omega,es,rfl,hes,hde,rfl,by simp⟩,?_⟩
  rintro ⟨cy,k,vs⟩ V6 l6 ⟨hc0,hc1,hk0,hk1,fs,rfl,hfs,hdf,hdr,hw⟩
  dsimp only at hc0 hc1 hk0 hk1 hdr hw ⊢
  obtain ⟨k,rfl⟩:=Int.eq_ofNat_of_zero_le hk0
  obtain ⟨cy,rfl⟩:=Int.eq_ofNat_of_zero_le hc0
  simp only [Int.toNat_natCast] at hdr hw
  refine ⟨by trivial,fun h4=>?_,fun h4=>?_⟩
  ·have h4:k < m:=by simpa using h4
   refine (hy.le (l5.trans l6)).rd k rfl (by omega) ?_
   have hdy:=hy.dig.get (i:=k) (by omega)
   have hdf':=hdf.get (i:=i + k) (by omega)
   have hef:fs[i + k]'(by omega)=es[i + k]'(by omega):=by
    have h1:fs[i + k]?=es[i + k]?:=by
     have:=congrArg (fun l=>l[0]?) hdr
     simpa [List.getElem?_drop] using this
    rw [List.getElem?_eq_getElem (by omega),List.getElem?_eq_getElem (by omega)] at h1
    exact Option.some.inj h1
   simp (disch:=omega) only [i64w]
   have hik:((i:Int) + k).toNat=i + k:=by omega
   rw [hik]
   refine ⟨⟨by omega,by omega⟩,((fs[i + k]'(by omega):Nat):Int),by rw [Nat.zero_add,Nat.mul_one]; exact u32s_get (by omega),⟨by omega,by omega⟩,by simp; omega,by omega,?_⟩
   have hxy:xs[i] * ys[k]<=4294967295 * 4294967295:=Nat.mul_le_mul (by omega) (by omega)
   have hxyc:(xs[i]:Int) * (ys[k]:Int)=((xs[i] * ys[k]:Nat):Int):=by simp
   obtain ⟨t,ht⟩:∃t:Nat,t=cy + xs[i] * ys[k] + fs[i + k]'(by omega):=⟨_,rfl⟩
   rw [Nat.pow_add] at hw
   have hstep:=mul_step hw ht
   have e1:u64.wrap (u64.wrap (u64.wrap (u64.wrap (xs[i]:Int) * u64.wrap (ys[k]:Int)) + u64.wrap ((fs[i + k]'(by omega):Nat):Int)) + (cy:Int))=(t:Int):=by
    clear hstep
    generalize xs[i] * ys[k]=pq at *
    rw [u64w (x:=(xs[i]:Int)) (by omega),u64w (x:=(ys[k]:Int)) (by omega),hxyc,u64w (x:=((pq:Nat):Int)) (by omega)]
    simp (disch:=omega) only [u64w]
    omega
   rw [e1,u32m,shr32]
   refine ⟨(_,_,_),?_,by (try dsimp only); and_intros <;> first | exact True.intro | rfl,?_⟩
   ·(try dsimp only); omega
   ·(try dsimp only)
    have hk2:((k:Int) + 1).toNat=k + 1:=by omega
    refine ⟨by omega,by omega,by omega,by omega,fs.set (i + k) (t % 4294967296),?_,by simpa using hfs,hdf.set _ _ (by omega),?_,?_⟩
    ·rw [← u32s_set]; simp
    ·rw [hk2,List.drop_set_of_lt (by omega)]
     have:=congrArg (List.drop 1) hdr
     simpa [List.drop_drop,Nat.add_comm,Nat.add_assoc,Nat.add_left_comm] using this
    ·rw [hk2,show i + (k + 1)=i + k + 1 from by omega,val_take_set _ _ _ (by omega),val_take_succ es (i + k) (by omega),val_take_succ ys k (by omega),← hef,Nat.pow_succ]
     have e2:((t:Int) / 4294967296).toNat=t / 4294967296:=by omega
     rw [e2,Nat.pow_add,hstep]
  ·have h4:k=m:=by simp at h4; omega
   subst h4
   simp (disch:=omega) only [i64w]
   have hik:((i:Int) + k).toNat=i + k:=by omega
   rw [hik]
   refine ⟨⟨by omega,by omega⟩,by simp; omega,(_,_),?_,by (try dsimp only); and_intros <;> first | exact True.intro | rfl,?_⟩
   ·(try dsimp only); omega
   ·(try dsimp only)
    have hi2:((i:Int) + 1).toNat=i + 1:=by omega
    refine ⟨by omega,by omega,fs.set (i + k) cy,?_,by simpa using hfs,hdf.set _ _ (by omega),?_⟩
    ·rw [← u32s_set,u32w (by omega)]; simp
    ·rw [hi2,show i + 1 + k=i + k + 1 from by omega,val_take_set _ _ _ (by omega),hw,hv,val_take_succ xs i (by omega),val_take_of_le (ds:=ys) (by omega)]
     grind
 ·have h3:i=n:=by simp at h3; omega
  subst h3
  intro V6 l6 bk hb'
  refine (c_num_Trim (RD.blk hb' hde (n:=i + m) (c:=i + m) (by omega) (Nat.le_refl _)) (by omega)).mono ?_
  rintro r V7 l7 ⟨k,rfl,h4⟩
  refine ⟨_,_,_,rfl,fun _ V8 l8=>⟨_,_,_,rfl,?_⟩⟩
  rw [trimD_eq hde] at h4
  rw [val_take_of_le (by omega),val_take_of_le (by omega)] at hv
  rw [hv] at h4
  exact h4.le l8
theorem c_num_word {V:View} {p:OA} {n c:Nat} {ds:List Nat} (h:RD V p n c ds) (hm:ds.length<=1099511627776) :
  Acts prog 202 #[.slice p n c] V fun r V'=>r=.tuple #[.int .u64 ((if n<=2 then val ds else 0:Nat):Int),.bool (decide (n<=2))]:=by
 have hl:=h.len
 refine vc_num_word p n c V _ ⟨fun h0 V1 l1=>?_,fun h0=>⟨fun h1=>?_,fun h1=>⟨fun h2=>?_,fun h2 V1 l1=>?_⟩⟩⟩
 ·have h0:n=0:=by simp at h0; omega
  subst h0
  have:ds=[]:=List.length_eq_zero_iff.1 (by omega)
  subst this
  rfl
 ·have h1:n=1:=by simp at h1; omega
  subst h1
  obtain ⟨a,rfl⟩:=one_of_len (ds:=ds) (by omega)
  have hd:=h.dig.get (i:=0) (by simp)
  refine rdOne h (by simp) fun V1 l1=>?_
  simp only [List.getElem_cons_zero] at hd ⊢
  have e1:u64.wrap (a:Int)=a:=u64w (by omega)
  rw [e1,if_pos (by omega),decide_eq_true (by omega)]
  simp
 ·have h2:n=2:=by simp at h2; omega
  subst h2
  obtain ⟨a,b,rfl⟩:=two_of_len (ds:=ds) (by omega)
  have hd0:=h.dig.get (i:=0) (by simp)
  have hd1:=h.dig.get (i:=1) (by simp)
  refine rdAt h 1 (by simp) ⟨by omega,rdOne h (by simp) fun V1 l1=>?_⟩
  simp only [List.getElem_cons_zero,List.getElem_cons_succ] at hd0 hd1 ⊢
  have e1:u64.wrap (a:Int)=a:=u64w (by omega)
  have e2:u64.wrap (b:Int)=b:=u64w (by omega)
  have e3:((2:Int) ^ 32)=4294967296:=by decide
  have e4:u64.wrap ((b:Int) * 4294967296)=(b:Int) * 4294967296:=u64w (by omega)
  rw [e1,e2,e3,e4,or64 _ _ hd1 hd0,if_pos (by omega),decide_eq_true (by omega)]
  simp only [val_cons,val_nil]
  congr 4
  omega
 ·have h2:¬ n<=2:=by simp at h0 h1 h2; omega
  rw [if_neg h2,decide_eq_false h2]
  rfl
end Go.Proofs.Tryz
/- Contracts of the reference's numbers: Left. -/
namespace Go.Proofs.Tryz
open Go.Eng Go.Big
theorem or_zero_l (b:Nat):0 ||| b=b:=Nat.zero_or b
theorem c_num_Left {V:View} {p:OA} {n c:Nat} {ds:List Nat} (hx:RD V p n c ds) (hm:ds.length<=1099511627776) (k:Nat) (hk:k<=35184372088832) :
  Acts prog 229 #[.slice p n c,.int .i64 (k:Int)] V fun r V'=>∃p' n' c',r=.slice p' n' c'/\RN V' p' n' c' (val ds * 2 ^ k):=by
 have hl:=hx.len
 have e2:(k:Int).tdiv 32=((k / 32:Nat):Int):=by rw [Int.tdiv_eq_ediv_of_nonneg (by omega)]; omega
 have e3:(k:Int).tmod 32=((k % 32:Nat):Int):=by rw [Int.tmod_eq_emod_of_nonneg (by omega)]; omega
 have vc:=vc_num_Left p n c k V
 have hk2:val ds * 2 ^ k=4294967296 ^ (k / 32) * val ds * 2 ^ (k % 32):=by
  have:2 ^ k=4294967296 ^ (k / 32) * 2 ^ (k % 32):=by
   rw [show (4294967296:Nat)=2 ^ 32 from rfl,← Nat.pow_mul,← Nat.pow_add,Nat.div_add_mod]
  rw [this]; grind
 rw [hk2]
 have hwl:k / 32<=1099511627776:=by omega
 have hrl:k % 32 < 32:=Nat.mod_lt _ (by omega)
 rw [e2,e3] at vc
 generalize k / 32=w at *
 generalize k % 32=r at *
 clear e2 e3 hk2
 have w1:i64.wrap (w:Int)=(w:Int):=i64w (by omega)
 have w2:i64.wrap ((w:Int) + n)=((w + n:Nat):Int):=by rw [i64w (by omega)]; omega
 have w3:i64.wrap (((w + n:Nat):Int) + 1)=((w + n + 1:Nat):Int):=by rw [i64w (by omega)]; omega
 have w4:u64.wrap (r:Int)=(r:Int):=u64w (by omega)
 have hmin:(min r IntKind.u64.bits)=r:=by
  show min _ 64=r
  omega
 have hp:((2:Int) ^ r)=((2 ^ r:Nat):Int):=by simp
 simp only [w1,w2,w3,w4,Int.toNat_natCast,hmin,hp,u32s_rep] at vc
 refine vc _ ⟨by omega,by omega,by omega,by omega,by omega,fun z V'=>0<=z.1/\z.1<=n/\∃es:List Nat,z.2=u32s es/\es.length=w + n + 1/\Dig es/\(∀c,es[z.1.toNat + w]?=some c->c < 2 ^ r)/\(∀j c,z.1.toNat + w < j->es[j]?=some c->c=0) /\
   val (es.take (z.1.toNat + w + 1))=4294967296 ^ w * val (ds.take z.1.toNat) * 2 ^ r,fun z=>n - z.1.toNat,
   ⟨(0,u32s (List.replicate (w + n + 1) 0)),by (try dsimp only); and_intros <;> first | exact True.intro | rfl,by (try dsimp only); omega,by (try dsimp only); omega,_,rfl,by simp,Dig.rep _,?_,?_,?_⟩,?_⟩
 ·intro c hc
  rw [List.getElem?_replicate] at hc
  split at hc
  ·cases hc; exact Nat.two_pow_pos r
  ·cases hc
 ·intro j c _ hc
  rw [List.getElem?_replicate] at hc
  split at hc
  ·cases hc; rfl
  ·cases hc
 ·simp [List.take_replicate,val_rep]
 rintro ⟨i,vs⟩ V4 l4 ⟨hi0,hi1,es,rfl,hes,hde,hc,hz,hv⟩
 dsimp only at hi0 hi1 hc hz hv ⊢
 obtain ⟨i,rfl⟩:=Int.eq_ofNat_of_zero_le hi0
 simp only [Int.toNat_natCast] at hc hz hv
 refine ⟨by trivial,fun h3=>?_,fun h3=>?_⟩
 ·have h3:i < n:=by simpa using h3
  have x1:i64.wrap ((w:Int) + i)=((i + w:Nat):Int):=by rw [i64w (by omega)]; omega
  have x2:i64.wrap (((i + w:Nat):Int) + 1)=((i + w + 1:Nat):Int):=by rw [i64w (by omega)]; omega
  have x3:i64.wrap ((i:Int) + 1)=((i + 1:Nat):Int):=by rw [i64w (by omega)]; omega
  simp only [x1,x2,x3,Int.toNat_natCast,Nat.mul_one,Nat.zero_add]
  refine rdAt (hx.le l4) i (by omega) ?_
  have hdx:=hx.dig.get (i:=i) (by omega)
  have hce:=hc (es[i + w]'(by omega)) (List.getElem?_eq_getElem _)
  have hze:=hz (i + w + 1) (es[i + w + 1]'(by omega)) (by omega) (List.getElem?_eq_getElem _)
  obtain ⟨g1,g2,g3,g4⟩:=shl_step hdx hrl hce
  have hmul:((ds[i]:Nat):Int) * ((2 ^ r:Nat):Int)=((ds[i] * 2 ^ r:Nat):Int):=by simp
  have x4:u64.wrap ((ds[i]:Nat):Int)=((ds[i]:Nat):Int):=u64w (by omega)
  have x5:u64.wrap ((ds[i] * 2 ^ r:Nat):Int)=((ds[i] * 2 ^ r:Nat):Int):=u64w (by omega)
  have ec:u32.wrap ((ds[i] * 2 ^ r:Nat):Int)=((ds[i] * 2 ^ r % 4294967296:Nat):Int):=by rw [u32m]; omega
  have ed:u32.wrap (((ds[i] * 2 ^ r:Nat):Int).fdiv (2 ^ 32))=((ds[i] * 2 ^ r / 4294967296:Nat):Int):=by rw [shr32,u32m]; omega
  simp only [x4,hmul,x5,ec,ed]
  have hd2:ds[i] * 2 ^ r / 4294967296 < 4294967296:=by omega
  have hdm:=Nat.mod_add_div (ds[i] * 2 ^ r) 4294967296
  have hdr:val (List.take (i + 1) ds)=val (List.take i ds) + 4294967296 ^ i * ds[i]:=val_take_succ _ _ (by omega)
  have hes1:val (es.take (i + w + 1))=val (es.take (i + w)) + 4294967296 ^ (i + w) * es[i + w]'(by omega):=val_take_succ _ _ (by omega)
  have hlo:ds[i] * 2 ^ r % 4294967296 < 4294967296:=Nat.mod_lt _ (by omega)
  generalize ds[i] * 2 ^ r % 4294967296=lo at *
  generalize ds[i] * 2 ^ r / 4294967296=hi at *
  refine ⟨by omega,by omega,⟨by omega,by omega⟩,((es[i + w]'(by omega):Nat):Int),u32s_get (by omega),⟨by omega,by omega⟩,by simp; omega,by omega,⟨by omega,by omega⟩,((es[i + w + 1]'(by omega):Nat):Int),?_,by omega,⟨by omega,by omega⟩,by simp; omega,?_⟩
  ·rw [List.getElem?_set_ne (by omega)]; exact u32s_get (by omega)
  have hce32:es[i + w]'(by omega) < 4294967296:=hde.get (by omega)
  rw [or_u32 _ _ hce32 hlo,g1,hze,or_u32 _ _ (by omega) hd2,or_zero_l]
  refine ⟨(((i + 1:Nat):Int),u32s ((es.set (i + w) (es[i + w]'(by omega) + lo)).set (i + w + 1) hi)),?_,?_,?_⟩
  ·(try dsimp only); omega
  ·(try dsimp only); and_intros <;> first | exact True.intro | rfl | rw [← u32s_set,← u32s_set]
  ·(try dsimp only)
   refine ⟨by omega,by omega,_,rfl,by simpa using hes,(hde.set _ _ (by omega)).set _ _ (by omega),?_,?_,?_⟩
   ·intro c hc'
    simp only [Int.toNat_natCast] at hc'
    rw [show i + 1 + w=i + w + 1 from by omega,List.getElem?_set_self (by simp; omega)] at hc'
    cases hc'; exact g3
   ·intro j c hj hc'
    simp only [Int.toNat_natCast] at hj
    rw [List.getElem?_set_ne (by omega),List.getElem?_set_ne (by omega)] at hc'
    exact hz j c (by omega) hc'
   ·simp only [Int.toNat_natCast]
    rw [show i + 1 + w + 1=i + w + 1 + 1 from by omega,val_take_set _ _ _ (by simp; omega),val_take_set _ _ _ (by omega),hdr]
    rw [hes1] at hv
    have hA:4294967296 ^ (i + w + 1) * hi=4294967296 ^ (i + w) * (4294967296 * hi):=by rw [Nat.pow_succ]; grind
    rw [hA,Nat.mul_add,← Nat.add_assoc,hv,Nat.add_assoc,← Nat.mul_add,hdm,Nat.pow_add]
    grind
 ·have h3:i=n:=by simp at h3; omega
  subst h3
  intro V5 l5 bk hb
  refine (c_num_Trim (RD.blk hb hde (n:=w + i + 1) (c:=w + i + 1) (by omega) (Nat.le_refl _)) (by omega)).mono ?_
  rintro r' V6 l6 ⟨k',rfl,h4⟩
  refine ⟨_,_,_,rfl,fun _ V7 l7=>⟨_,_,_,rfl,?_⟩⟩
  rw [val_take_of_le (by omega),val_take_of_le (by omega)] at hv
  rw [trimD_eq hde,hv] at h4
  exact h4.le l7
end Go.Proofs.Tryz
/- Contracts of the reference's numbers: Right. -/
namespace Go.Proofs.Tryz
open Go.Eng Go.Big
theorem Addr_add_add (a:Addr) (m n:Nat):(a.add m).add n=a.add (m + n):=by
 unfold Addr.add
 by_cases h1:m=0
 ·subst h1; simp
 ·by_cases h2:n=0
  ·subst h2; simp [h1]
  ·rw [if_neg h1,if_neg h2,if_neg (by omega)]
   simp only [Nat.add_assoc]
theorem RDdrop {V:View} {p:OA} {n c:Nat} {ds:List Nat} (h:RD V p n c ds) {k:Nat} (hk:k < n):RD V (slA p c k 1) (n - k) (c - k) (ds.drop k):=by
 have hl:=h.len
 have hc:=h.cap
 have e:slA p c k 1=addrAdd p k:=by unfold slA; rw [if_neg (by omega),Nat.mul_one]
 rw [e]
 refine ⟨by simp; omega,by omega,fun i v hv=>?_,h.dig.drop k,fun hp=>?_⟩
 ·rw [u32s_drop,List.getElem?_drop] at hv
  obtain ⟨ad,e1,hat⟩:=h.sl _ _ hv
  refine ⟨ad.add k,by rw [e1]; rfl,?_⟩
  rw [Addr_add_add]; exact hat
 ·have:p.isNone=true:=by cases p <;> simp_all [addrAdd]
  have:=h.nilc this
  omega
theorem c_num_Right {V:View} {p:OA} {n c:Nat} {ds:List Nat} (hd:RD V p n c ds) (hm:ds.length<=1099511627776) (k:Nat) (hk:k<=35184372088832) :
  Acts prog 230 #[.slice p n c,.int .i64 (k:Int)] V fun r V'=>∃p' n' c',r=.slice p' n' c'/\RN V' p' n' c' (val ds / 2 ^ k):=by
 have hl:=hd.len
 have e2:(k:Int).tdiv 32=((k / 32:Nat):Int):=by rw [Int.tdiv_eq_ediv_of_nonneg (by omega)]; omega
 have e3:(k:Int).tmod 32=((k % 32:Nat):Int):=by rw [Int.tmod_eq_emod_of_nonneg (by omega)]; omega
 have vc:=vc_num_Right p n c k V
 have hk2:val ds / 2 ^ k=val ds / 4294967296 ^ (k / 32) / 2 ^ (k % 32):=by
  rw [Nat.div_div_eq_div_mul,show (4294967296:Nat)=2 ^ 32 from rfl,← Nat.pow_mul,← Nat.pow_add,Nat.div_add_mod]
 rw [hk2]
 have hwl:k / 32<=1099511627776:=by omega
 have hrl:k % 32 < 32:=Nat.mod_lt _ (by omega)
 rw [e2,e3] at vc
 generalize k / 32=w at *
 generalize k % 32=r at *
 clear e2 e3 hk2
 have w1:i64.wrap (w:Int)=(w:Int):=i64w (by omega)
 have w4:u64.wrap (r:Int)=(r:Int):=u64w (by omega)
 have hmin:(min r IntKind.u64.bits)=r:=by
  show min _ 64=r
  omega
 simp only [w1,w4,Int.toNat_natCast,hmin,u32s_rep] at vc
 refine vc _ ⟨by omega,fun h0 V1 l1=>?_,fun h0=>?_⟩
 ·have h0:n<=w:=by simp at h0; omega
  have hlt:=val_lt hd.dig
  have:4294967296 ^ ds.length<=4294967296 ^ w:=Nat.pow_le_pow_right (by omega) (by omega)
  rw [Nat.div_eq_of_lt (Nat.lt_of_lt_of_le hlt this),Nat.zero_div]
  exact ⟨_,_,_,rfl,RD.nil⟩
 ·have h0:w < n:=by simp at h0; omega
  clear vc
  have hxw:val ds / 4294967296 ^ w=val (ds.drop w):=by
   have e:val ds=val (ds.take w++ds.drop w):=by rw [List.take_append_drop]
   have hlt:=val_lt (hd.dig.take w)
   rw [val_append] at e
   rw [List.length_take,Nat.min_eq_left (by omega)] at e hlt
   rw [e,Nat.add_mul_div_left _ _ (Nat.pow_pos (by omega)),Nat.div_eq_of_lt hlt,Nat.zero_add]
  rw [hxw]
  have hx:=RDdrop hd h0
  have hlx:=hx.len
  clear hxw
  generalize slA p c w 1=sp at *
  generalize ds.drop w=xs at *
  generalize hN:n - w=N at *
  refine ⟨by omega,by omega,⟨by omega,by omega⟩,by omega,by omega,by omega,fun z V'=>0<=z.1/\z.1<=N/\∃es:List Nat,z.2=u32s es/\es.length=N/\Dig es /\
   val (es.take z.1.toNat) + 4294967296 ^ z.1.toNat * (val (xs.drop z.1.toNat) / 2 ^ r)=val xs / 2 ^ r,fun z=>N - z.1.toNat,
   ⟨(0,u32s (List.replicate N 0)),by (try dsimp only); and_intros <;> first | exact True.intro | rfl,by (try dsimp only); omega,by (try dsimp only); omega,_,rfl,by simp,Dig.rep _,by simp⟩,?_⟩
  rintro ⟨i,vs⟩ V4 l4 ⟨hi0,hi1,es,rfl,hes,hde,hv⟩
  dsimp only at hi0 hi1 hv ⊢
  obtain ⟨i,rfl⟩:=Int.eq_ofNat_of_zero_le hi0
  simp only [Int.toNat_natCast] at hv
  refine ⟨by trivial,fun h3=>?_,fun h3=>?_⟩
  ·have h3:i < N:=by simpa using h3
   have x3:i64.wrap ((i:Int) + 1)=((i + 1:Nat):Int):=by rw [i64w (by omega)]; omega
   simp only [x3,Int.toNat_natCast,Nat.mul_one,Nat.zero_add]
   refine rdAt (hx.le l4) i (by omega) ?_
   have hdx:=hx.dig.get (i:=i) (by omega)
   refine ⟨fun z V'=>z=((xs[i] + 4294967296 * (xs[i + 1]?).getD 0:Nat):Int),⟨fun h4=>?_,fun h4=>?_⟩,?_⟩
   ·have h4:i + 1 < N:=by simp at h4; omega
    have hdy:=hx.dig.get (i:=i + 1) (by omega)
    have e4:bitI .or .u64 (u64.wrap ((xs[i]:Nat):Int)) (u64.wrap (u64.wrap ((xs[i + 1]:Nat):Int) * 2 ^ 32))=((xs[i] + 4294967296 * (xs[i + 1]?).getD 0:Nat):Int):=by
     have e3:((2:Int) ^ 32)=4294967296:=by decide
     rw [e3,u64w (by omega),u64w (x:=((xs[i + 1]:Nat):Int)) (by omega),u64w (by omega),or64' _ _ hdy hdx,List.getElem?_eq_getElem (by omega),Option.getD_some]
     omega
    refine rdAt (hx.le l4) (i + 1) (by omega) ⟨by omega,((xs[i] + 4294967296 * (xs[i + 1]?).getD 0:Nat):Int),?_,rfl⟩
    (try dsimp only); and_intros <;> first | exact True.intro | exact e4 | rfl
   ·have h4:N<=i + 1:=by simp at h4; omega
    have e4:u64.wrap ((xs[i]:Nat):Int)=((xs[i] + 4294967296 * (xs[i + 1]?).getD 0:Nat):Int):=by
     rw [u64w (by omega),List.getElem?_eq_none (by omega)]; simp
    refine ⟨((xs[i] + 4294967296 * (xs[i + 1]?).getD 0:Nat):Int),?_,rfl⟩
    (try dsimp only); and_intros <;> first | exact True.intro | exact e4 | rfl
   rintro _ V5 l5 rfl
   have hst:=shr_step (Y:=val (xs.drop (i + 1))) hdx hrl
   rw [val_drop_mod hx.dig] at hst
   have hdrop:val (xs.drop i)=xs[i] + 4294967296 * val (xs.drop (i + 1)):=by
    rw [List.drop_eq_getElem_cons (by omega),val_cons]
   rw [hdrop,hst] at hv
   rw [fdiv_nat,u32m]
   obtain ⟨D,hD⟩:∃D,D=(xs[i] + 4294967296 * (xs[i + 1]?).getD 0) / 2 ^ r % 4294967296:=⟨_,rfl⟩
   have eD:(((xs[i] + 4294967296 * (xs[i + 1]?).getD 0) / 2 ^ r:Nat):Int) % 4294967296=(D:Int):=by rw [hD]; omega
   rw [eD]
   rw [← hD] at hv
   refine ⟨by trivial,by omega,⟨by omega,by omega⟩,by simp; omega,(((i + 1:Nat):Int),u32s (es.set i D)),?_,?_,?_⟩
   ·(try dsimp only); omega
   ·(try dsimp only); and_intros <;> first | exact True.intro | rfl | rw [← u32s_set]
   ·(try dsimp only)
    refine ⟨by omega,by omega,_,rfl,by simpa using hes,hde.set _ _ (by omega),?_⟩
    simp only [Int.toNat_natCast]
    rw [val_take_set _ _ _ (by omega),← hv,Nat.pow_succ,Nat.mul_add,Nat.add_assoc,Nat.mul_assoc]
  ·have h3:i=N:=by simp at h3; omega
   subst h3
   intro V5 l5 bk hb
   refine (c_num_Trim (RD.blk hb hde (n:=i) (c:=i) (by omega) (Nat.le_refl _)) (by omega)).mono ?_
   rintro r' V6 l6 ⟨k',rfl,h4⟩
   refine ⟨_,_,_,rfl,fun _ V7 l7=>⟨_,_,_,rfl,?_⟩⟩
   rw [val_take_of_le (by omega),List.drop_of_length_le (l:=xs) (i:=i) (by omega)] at hv
   have hv:val es=val xs / 2 ^ r:=by
    rw [← hv,val_nil,Nat.zero_div,Nat.mul_zero,Nat.add_zero]
   rw [trimD_eq hde,hv] at h4
   exact h4.le l7
end Go.Proofs.Tryz
/- Plain laws for the reference's long division. -/
namespace Go.Big
theorem val_div_pow {ds:List Nat} (hd:Dig ds) (w:Nat) (hw:w<=ds.length):val ds / 4294967296 ^ w=val (ds.drop w):=by
 have e:val ds=val (ds.take w++ds.drop w):=by rw [List.take_append_drop]
 have hlt:=val_lt (hd.take w)
 rw [val_append] at e
 rw [List.length_take,Nat.min_eq_left (by omega)] at e hlt
 rw [e,Nat.add_mul_div_left _ _ (Nat.pow_pos (by omega)),Nat.div_eq_of_lt hlt,Nat.zero_add]
theorem lead2 {R n:Nat} (h:(digs R).length=n + 2):R / 4294967296 ^ n=(digs R)[n + 1]'(by omega) * 4294967296 + (digs R)[n]'(by omega):=by
 have:=val_div_pow (dig_digs R) n (by omega)
 rw [val_digs] at this
 rw [this,List.drop_eq_getElem_cons (by omega),List.drop_eq_getElem_cons (i:=n + 1) (by omega),List.drop_of_length_le (by omega)]
 simp only [val_cons,val_nil]
 omega
theorem lead1 {R n:Nat} (h:(digs R).length=n + 1):R / 4294967296 ^ n=(digs R)[n]'(by omega):=by
 have:=val_div_pow (dig_digs R) n (by omega)
 rw [val_digs] at this
 rw [this,List.drop_eq_getElem_cons (by omega),List.drop_of_length_le (by omega)]
 simp only [val_cons,val_nil]
 omega
theorem lead0 {R n:Nat} (h:(digs R).length<=n):R / 4294967296 ^ n=0:=Nat.div_eq_of_lt (digs_len_le.1 h)
theorem top_mul_le {V n:Nat} (h:(digs V).length=n + 1):(digs V)[n]'(by omega) * 4294967296 ^ n<=V:=by
 have:=lead1 h
 rw [← this]
 exact Nat.div_mul_le_self _ _
theorem guess_ge {R V top P W:Nat} (hV:top * P<=V) (ht:0 < top) (hP:0 < P) (hW:0 < W):R / (V * W)<=R / (P * W) / top:=by
 rw [Nat.le_div_iff_mul_le ht,Nat.le_div_iff_mul_le (Nat.mul_pos hP hW)]
 have h1:R / (V * W) * (V * W)<=R:=Nat.div_mul_le_self _ _
 have h2:R / (V * W) * (top * P * W)<=R / (V * W) * (V * W):=Nat.mul_le_mul_left _ (Nat.mul_le_mul_right _ hV)
 have h3:R / (V * W) * top * (P * W)=R / (V * W) * (top * P * W):=by
  generalize R / (V * W)=q
  rw [Nat.mul_assoc q top,← Nat.mul_assoc top P W]
 omega
theorem long_keep {A V W D R q R':Nat} (h:A=V * (W * 4294967296 * D) + R) (hq:R=V * q * W + R'):A=V * (W * (q + 4294967296 * D)) + R':=by
 subst hq; rw [h]; grind
theorem long_end {x y s Q R:Nat} (h:x * 2 ^ s=y * 2 ^ s * Q + R) (hR:R < y * 2 ^ s):Q=x / y/\R / 2 ^ s=x % y:=by
 have hp:=Nat.two_pow_pos s
 have hy:0 < y:=by
  rcases Nat.eq_zero_or_pos y with e | e
  ·subst e; simp at hR
  ·exact e
 have h1:y * 2 ^ s * Q=(y * Q) * 2 ^ s:=by grind
 rw [h1] at h
 have h2:y * Q<=x:=by
  rcases Nat.lt_or_ge x (y * Q) with hl | hl
  ·have:(x + 1) * 2 ^ s<=y * Q * 2 ^ s:=Nat.mul_le_mul_right _ hl
   rw [Nat.add_mul] at this
   omega
  ·exact hl
 obtain ⟨d,rfl⟩:=Nat.exists_eq_add_of_le h2
 rw [Nat.add_mul] at h
 have h3:R=d * 2 ^ s:=by omega
 subst h3
 have h4:d < y:=Nat.lt_of_mul_lt_mul_right hR
 rw [Nat.mul_div_cancel _ hp]
 constructor
 ·rw [Nat.mul_add_div hy,Nat.div_eq_of_lt h4,Nat.add_zero]
 ·rw [Nat.mul_add_mod,Nat.mod_eq_of_lt h4]
theorem pow32 (j:Nat):2 ^ (32 * j)=4294967296 ^ j:=by rw [Nat.pow_mul]
theorem guess_stop {R V W g:Nat} (hVW:0 < V * W) (h:V * g * W<=R) (hq:R / (V * W)<=g):g=R / (V * W):=by
 have:g<=R / (V * W):=by
  rw [Nat.le_div_iff_mul_le hVW]
  have:g * (V * W)=V * g * W:=by grind
  omega
 omega
theorem guess_go {R V W g:Nat} (hVW:0 < V * W) (h:R < V * g * W):R / (V * W) < g:=by
 rw [Nat.div_lt_iff_lt_mul hVW]
 have:g * (V * W)=V * g * W:=by grind
 omega
theorem rest_split {R V W:Nat}:R=V * (R / (V * W)) * W + R % (V * W):=by
 have:=Nat.div_add_mod R (V * W)
 have e:V * (R / (V * W)) * W=V * W * (R / (V * W)):=by
  generalize R / (V * W)=q
  grind
 omega
theorem digs_mul_len {a b:Nat}:(digs (a * b)).length<=(digs a).length + (digs b).length:=by
 rw [digs_len_le,Nat.pow_add]
 have h1:a < 4294967296 ^ (digs a).length:=digs_len_le.1 (Nat.le_refl _)
 have h2:b < 4294967296 ^ (digs b).length:=digs_len_le.1 (Nat.le_refl _)
 exact Nat.mul_lt_mul'' h1 h2
theorem digs_pow_len (j:Nat):(digs (4294967296 ^ j)).length<=j + 1:=by
 rw [digs_len_le]
 exact Nat.pow_lt_pow_right (by omega) (by omega)
end Go.Big
/- Contracts of the reference's numbers: long. -/
namespace Go.Proofs.Tryz
open Go.Eng Go.Big
theorem rdG {V:View} {p:OA} {n c:Nat} {ds:List Nat} (h:RD V p n c ds) {i:Int} {K:Int->Prop} (j d:Nat) (hj:i=j) (hn:ds[j]?=some d)
  (hK:K (d:Int)):(p.isSome=true)/\(0<=i/\i < (n:Int))/\∃x:Int,(∃a,addrAdd p (i.toNat * 1)=some a/\V.at a (.int .u32 x))/\K x:=by
 have hl:j < ds.length:=by
  rcases Nat.lt_or_ge j ds.length with h | h
  ·exact h
  ·rw [List.getElem?_eq_none h] at hn; cases hn
 refine h.rd j hj hl ?_
 rw [List.getElem?_eq_getElem hl] at hn
 cases hn; exact hK
theorem top_facts {W n:Nat} (h:(digs W).length=n + 1):∃top,(digs W)[n]?=some top/\top≠0/\top < 4294967296/\top * 4294967296 ^ n<=W:=by
 refine ⟨(digs W)[n]'(by omega),List.getElem?_eq_getElem _,?_,(dig_digs W).get _,top_mul_le h⟩
 have:=(nrm_digs W).last (by omega)
 simpa [h] using this
/-- What the outer loop keeps. -/
structure LongI (A V L:Nat) (R:Nat) (j:Nat) (es:List Nat):Prop where
 len:es.length=L
 dig:Dig es
 lt:R < V * 4294967296 ^ j
 eq:A=V * (4294967296 ^ j * val (es.drop j)) + R
theorem LongI.step {A V L R j:Nat} {es:List Nat} (h:LongI A V L R (j + 1) es) (hj:j < L) (hV:0 < V) :
  R / (V * 4294967296 ^ j) < 4294967296/\LongI A V L (R - V * (R / (V * 4294967296 ^ j)) * 4294967296 ^ j) j (es.set j (R / (V * 4294967296 ^ j))):=by
 have hW:0 < 4294967296 ^ j:=Nat.pow_pos (by omega)
 have hVW:0 < V * 4294967296 ^ j:=Nat.mul_pos hV hW
 have hq:R / (V * 4294967296 ^ j) < 4294967296:=by
  rw [Nat.div_lt_iff_lt_mul hVW]
  have:=h.lt
  rw [Nat.pow_succ] at this
  have e:4294967296 * (V * 4294967296 ^ j)=V * (4294967296 ^ j * 4294967296):=by
   generalize 4294967296 ^ j=w
   grind
  omega
 have hs:=rest_split (R:=R) (V:=V) (W:=4294967296 ^ j)
 have hm:=Nat.mod_lt R hVW
 have he:R - V * (R / (V * 4294967296 ^ j)) * 4294967296 ^ j=R % (V * 4294967296 ^ j):=by omega
 refine ⟨hq,⟨by simpa using h.len,h.dig.set _ _ hq,by rw [he]; exact hm,?_⟩⟩
 have hl:=h.len
 rw [List.drop_eq_getElem_cons (by simp; omega),List.getElem_set_self,List.drop_set_of_lt (by omega),val_cons,he]
 exact long_keep (by have:=h.eq; rwa [Nat.pow_succ] at this) hs
/-- The rest's digits, and the leading word. -/
theorem rest_len {R V j:Nat} (h:R < V * 4294967296 ^ (j + 1)):(digs R).length<=(digs V).length + j + 1:=by
 have h1:V * 4294967296 ^ (j + 1)<=4294967296 ^ (digs V).length * 4294967296 ^ (j + 1):=Nat.mul_le_mul_right _ (Nat.le_of_lt (digs_len_le.1 (Nat.le_refl _)))
 rw [← Nat.pow_add] at h1
 have:=digs_len_le.2 (Nat.lt_of_lt_of_le h h1)
 omega
theorem lead_lt {R n:Nat} (h:(digs R).length<=n + 2):R / 4294967296 ^ n < 18446744073709551616:=by
 rw [Nat.div_lt_iff_lt_mul (Nat.pow_pos (by omega))]
 have:=digs_len_le.1 h
 rw [Nat.pow_succ,Nat.pow_succ] at this
 have e:4294967296 ^ n * 4294967296 * 4294967296=18446744073709551616 * 4294967296 ^ n:=by
  generalize 4294967296 ^ n=w
  omega
 omega
theorem c_num_long {V:View} {p q:OA} {n c m e:Nat} {x y:Nat} (hx:RN V p n c x) (hy:RN V q m e y) (hm:(digs x).length<=274877906944) (hy0:0 < y) (hle:(digs y).length<=(digs x).length) :
  Acts prog 204 #[.slice p n c,.slice q m e] V fun r V'=>∃p1 n1 c1 p2 n2 c2,r=.tuple #[.slice p1 n1 c1,.slice p2 n2 c2]/\RN V' p1 n1 c1 (x / y)/\RN V' p2 n2 c2 (x % y):=by
 have hlx:=hx.len
 have hly:=hy.len
 have hm0:0 < m:=by
  rcases Nat.eq_zero_or_pos m with h | h
  ·have:=digs_eq_nil.1 (List.length_eq_zero_iff.1 (hly ▸ h)); omega
  ·exact h
 have vc:=vc_num_long p n c q m e V
 have w1:i64.wrap ((m:Int) - 1)=((m - 1:Nat):Int):=by rw [i64w (by omega)]; omega
 have w2:i64.wrap ((n:Int) - m)=((n - m:Nat):Int):=by rw [i64w (by omega)]; omega
 have w3:i64.wrap (((n - m:Nat):Int) + 1)=((n - m + 1:Nat):Int):=by rw [i64w (by omega)]; omega
 have w4:i64.wrap (((n - m + 1:Nat):Int) - 1)=((n - m:Nat):Int):=by rw [i64w (by omega)]; omega
 simp only [w1,w2,w3,Int.toNat_natCast,w4,u32s_rep] at vc
 obtain ⟨L,hL⟩:∃L,L=n - m + 1:=⟨_,rfl⟩
 rw [← hL] at vc
 refine vc _ ?_
 clear vc
 refine hy.rd (m - 1) rfl (by omega) fun V1 l1=>(c_LeadingZeros32 _ ((dig_digs y).get (by omega))).mono ?_
 rintro r V2 l2 rfl
 have hbl:blen ((digs y)[m - 1]'(by omega))<=32:=blen_le.2 (by have:=(dig_digs y).get (i:=m - 1) (by omega); omega)
 obtain ⟨s,hs⟩:∃s:Nat,(32:Int) - (blen ((digs y)[m - 1]'(by omega)):Int)=s:=⟨32 - blen ((digs y)[m - 1]'(by omega)),by omega⟩
 have hs32:s<=32:=by omega
 rw [hs]
 clear hs hbl
 refine ⟨_,rfl,fun V3 l3=>(c_num_Left (hy.le (l1.trans (l2.trans l3))) (by omega) s (by omega)).mono ?_⟩
 rintro r V4 l4 ⟨vp,vn,vc,rfl,hv⟩
 rw [val_digs] at hv
 refine ⟨_,_,_,rfl,fun V5 l5=>(c_num_Left (hx.le (l1.trans (l2.trans (l3.trans (l4.trans l5))))) (by omega) s (by omega)).mono ?_⟩
 rintro r V6 l6 ⟨rp,rn,rc,rfl,hr⟩
 rw [val_digs] at hr
 replace hv:=hv.le (l5.trans l6)
 have hlv:=hv.len
 have hsp:=Nat.two_pow_pos s
 have hs2:2 ^ s<=4294967296:=Nat.pow_le_pow_right (n:=2) (by omega) hs32
 have hV0:0 < y * 2 ^ s:=Nat.mul_pos hy0 hsp
 have hsl:(digs (2 ^ s)).length<=2:=digs_len_le.2 (by omega)
 have hvl:vn<=m + 2:=by have:=digs_mul_len (a:=y) (b:=2 ^ s); omega
 have hvn:0 < vn:=by
  rcases Nat.eq_zero_or_pos vn with h | h
  ·have:=digs_eq_nil.1 (List.length_eq_zero_iff.1 (hlv ▸ h)); omega
  ·exact h
 have hinit:LongI (x * 2 ^ s) (y * 2 ^ s) L (x * 2 ^ s) L (List.replicate L 0):=by
  refine ⟨by simp,Dig.rep _,?_,by simp⟩
  have h1:x < 4294967296 ^ n:=by rw [hlx]; exact digs_len_le.1 (Nat.le_refl _)
  have h2:4294967296 ^ (m - 1)<=y:=by rw [← digs_len_lt]; omega
  have h3:4294967296 ^ (m - 1) * 4294967296 ^ L<=y * 4294967296 ^ L:=Nat.mul_le_mul_right _ h2
  rw [← Nat.pow_add,show m - 1 + L=n from by omega] at h3
  have h4:x * 2 ^ s < y * 4294967296 ^ L * 2 ^ s:=Nat.mul_lt_mul_of_pos_right (by omega) hsp
  have h5:y * 4294967296 ^ L * 2 ^ s=y * 2 ^ s * 4294967296 ^ L:=by
   generalize 4294967296 ^ L=w
   grind
  omega
 have hend:∀{Q R:Nat},x * 2 ^ s=y * 2 ^ s * Q + R->R < y * 2 ^ s->Q=x / y/\R / 2 ^ s=x % y:=fun h1 h2=>long_end h1 h2
 generalize x * 2 ^ s=A at *
 generalize y * 2 ^ s=W at *
 have w5:i64.wrap ((vn:Int) - 1)=((vn - 1:Nat):Int):=by rw [i64w (by omega)]; omega
 simp only [w5,Int.toNat_natCast]
 refine ⟨_,_,_,rfl,?_⟩
 obtain ⟨top,htg,htop0,htopl,htopV⟩:=top_facts (W:=W) (n:=vn - 1) (by omega)
 refine rdG hv (vn - 1) top rfl htg ?_
 have w6:u64.wrap (top:Int)=top:=u64w (by omega)
 simp only [w6]
 refine ⟨by omega,by omega,by omega,fun z V'=>∃R:Nat,RN V' z.1 z.2.1 z.2.2.1 R/\-1<=z.2.2.2.1/\z.2.2.2.1 < L/\∃es:List Nat,z.2.2.2.2=u32s es/\LongI A W L R (z.2.2.2.1 + 1).toNat es,fun z=>(z.2.2.2.1 + 1).toNat,
  ⟨(rp,rn,rc,((n - m:Nat):Int),u32s (List.replicate L 0)),by (try dsimp only); and_intros <;> first | exact True.intro | rfl,A,hr,by (try dsimp only); omega,by (try dsimp only); omega,_,rfl,?_⟩,?_⟩
 ·(try dsimp only)
  rw [show (((n - m:Nat):Int) + 1).toNat=L from by omega]
  exact hinit
 rintro ⟨rp,rn,rc,j,vs⟩ V7 l7 ⟨R,hR,hj0,hj1,es,rfl,hI⟩
 dsimp only at hR hj0 hj1 hI ⊢
 have hlr:=hR.len
 refine ⟨by trivial,fun h3=>?_,fun h3=>?_⟩
 ·have h3:0<=j:=by simpa using h3
  obtain ⟨j,rfl⟩:=Int.eq_ofNat_of_zero_le h3
  have hI:LongI A W L R (j + 1) es:=hI
  have hjL:j < L:=by omega
  have hrl:=rest_len hI.lt
  obtain ⟨hq,hI'⟩:=hI.step hjL hV0
  have w7:i64.wrap ((vn:Int) + j)=((vn - 1 + j + 1:Nat):Int):=by rw [i64w (by omega)]; omega
  have w8:i64.wrap (((vn - 1 + j + 1:Nat):Int) - 1)=((vn - 1 + j:Nat):Int):=by rw [i64w (by omega)]; omega
  have w9:i64.wrap ((32:Int) * j)=((32 * j:Nat):Int):=by rw [i64w (by omega)]; omega
  have w10:i64.wrap ((j:Int) - 1)=(j:Int) - 1:=i64w (by omega)
  simp only [w7,w8,w9,w10,Int.toNat_natCast]
  have hrl:(digs R).length<=vn - 1 + j + 2:=by omega
  have hld:=lead_lt hrl
  have hP:0 < 4294967296 ^ (vn - 1):=Nat.pow_pos (by omega)
  have hW:0 < 4294967296 ^ j:=Nat.pow_pos (by omega)
  have hg:=guess_ge (R:=R) htopV (by omega) hP hW
  rw [← Nat.pow_add] at hg
  have l2:=@lead2 R (vn - 1 + j)
  have l1:=@lead1 R (vn - 1 + j)
  have l0:=@lead0 R (vn - 1 + j)
  have hlast:∀i (hi:i < (digs R).length),(digs R)[i] < 4294967296:=fun i hi=>(dig_digs R).get hi
  generalize R / 4294967296 ^ (vn - 1 + j)=lead at *
  refine ⟨fun z V'=>z=(lead:Int),⟨fun h4=>?_,fun h4=>?_⟩,?_⟩
  ·have h4:vn - 1 + j + 1 < rn:=by simp at h4; omega
   refine (hR.rd (vn - 1 + j + 1) rfl (by omega) ⟨by omega,hR.rd (vn - 1 + j) rfl (by omega) ⟨(lead:Int),?_,rfl⟩⟩)
   have e4:bitI .or .u64 (u64.wrap (u64.wrap (((digs R)[vn - 1 + j + 1]'(by omega):Nat):Int) * 2 ^ 32)) (u64.wrap (((digs R)[vn - 1 + j]'(by omega):Nat):Int))=(lead:Int):=by
    have e3:((2:Int) ^ 32)=4294967296:=by decide
    have g1:=hlast (vn - 1 + j + 1) (by omega)
    have g2:=hlast (vn - 1 + j) (by omega)
    have:=l2 (by omega)
    rw [e3,u64w (x:=(((digs R)[vn - 1 + j + 1]'(by omega):Nat):Int)) (by omega),u64w (x:=(((digs R)[vn - 1 + j]'(by omega):Nat):Int)) (by omega),u64w (by omega),or64 _ _ g1 g2,this]
    omega
   (try dsimp only); and_intros <;> first | exact True.intro | exact e4 | rfl
  ·have h4:rn<=vn - 1 + j + 1:=by simp at h4; omega
   refine ⟨fun z V'=>z=(lead:Int),⟨fun h5=>?_,fun h5=>?_⟩,?_⟩
   ·have h5:vn - 1 + j < rn:=by simp at h5; omega
    refine hR.rd (vn - 1 + j) rfl (by omega) ⟨(lead:Int),?_,rfl⟩
    have e4:u64.wrap (((digs R)[vn - 1 + j]'(by omega):Nat):Int)=(lead:Int):=by
     have g2:=hlast (vn - 1 + j) (by omega)
     rw [u64w (by omega),l1 (by omega)]
    (try dsimp only); and_intros <;> first | exact True.intro | exact e4 | rfl
   ·have h5:rn<=vn - 1 + j:=by simp at h5; omega
    have e4:(0:Int)=(lead:Int):=by rw [l0 (by omega)]; rfl
    refine ⟨(lead:Int),?_,rfl⟩
    (try dsimp only); and_intros <;> first | exact True.intro | exact e4 | rfl
   ·rintro _ V8 l8 rfl
    refine ⟨by trivial,(lead:Int),?_,rfl⟩
    (try dsimp only); and_intros <;> first | exact True.intro | rfl
  rintro _ V9 l9 rfl
  clear l2 l1 l0 hlast
  have etop:(lead:Int).tdiv (top:Int)=((lead / top:Nat):Int):=by rw [Int.tdiv_eq_ediv_of_nonneg (by omega)]; omega
  have hlt:lead / top<=lead:=Nat.div_le_self _ _
  rw [etop]
  generalize lead / top=lt at *
  obtain ⟨g0,hg0,hg0b,hg0q⟩:∃g0:Nat,minI (u64.wrap (lt:Int)) 4294967295=(g0:Int)/\g0 < 4294967296/\R / (W * 4294967296 ^ j)<=g0:=by
   rw [u64w (by omega)]
   unfold minI
   split
   ·exact ⟨4294967295,rfl,by omega,by omega⟩
   ·exact ⟨lt,rfl,by omega,hg⟩
  rw [hg0]
  clear hg0 etop hlt hg hld
  have hWW:0 < W * 4294967296 ^ j:=Nat.mul_pos hV0 hW
  have hsz:∀g:Nat,g < 4294967296->(digs g).length<=1:=fun g hg=>digs_len_le.2 (by omega)
  refine ⟨by trivial,by omega,fun V10 l10=>(c_num_Word g0 (by omega)).mono ?_⟩
  rintro r V11 l11 ⟨gp,gn,gc,rfl,h11⟩
  refine ⟨_,_,_,rfl,fun V12 l12=>(c_num_Product (hv.le (l7.trans (l9.trans (l10.trans (l11.trans l12))))) (h11.le l12) (by have:=hsz g0 hg0b; omega)).mono ?_⟩
  rintro r V13 l13 ⟨pp,pn,pc,rfl,h13⟩
  rw [val_digs,val_digs] at h13
  have hpl:=fun g=>digs_mul_len (a:=W) (b:=g)
  refine ⟨_,_,_,rfl,fun V14 l14=>(c_num_Left (h13.le l14) (by have:=hsz g0 hg0b; have:=hpl g0; omega) (32 * j) (by omega)).mono ?_⟩
  rintro r V15 l15 ⟨tp,tn,tc,rfl,h15⟩
  rw [val_digs,pow32] at h15
  have hR15:=hR.le (l9.trans (l10.trans (l11.trans (l12.trans (l13.trans (l14.trans l15))))))
  have hv15:=hv.le (l7.trans (l9.trans (l10.trans (l11.trans (l12.trans (l13.trans (l14.trans l15)))))))
  refine ⟨_,_,_,rfl,fun z V'=>∃g:Nat,z.1=g/\g < 4294967296/\R / (W * 4294967296 ^ j)<=g/\RN V' z.2.1 z.2.2.1 z.2.2.2 (W * g * 4294967296 ^ j),fun z=>z.1.toNat,
   ⟨((g0:Int),tp,tn,tc),by (try dsimp only); and_intros <;> first | exact True.intro | rfl,g0,rfl,hg0b,hg0q,h15⟩,?_⟩
  rintro ⟨_,tp,tn,tc⟩ V16 l16 ⟨g,rfl,hgb,hgq,ht⟩
  dsimp only at ht ⊢
  have htl:(digs (W * g * 4294967296 ^ j)).length<=1099511627776:=by
   have h1:=digs_mul_len (a:=W * g) (b:=4294967296 ^ j)
   have h2:=digs_pow_len j
   have h3:=hpl g
   have h4:=hsz g hgb
   omega
  refine ⟨by trivial,fun V17 l17=>(c_num_Cmp (ht.le l17) (hR15.le (l16.trans l17)) htl (by omega)).mono ?_⟩
  rintro r V18 l18 rfl
  refine ⟨_,rfl,fun h6=>?_,fun h6=>?_⟩
  ·have h6:R < W * g * 4294967296 ^ j:=by
    have h6:0 < cmpN (W * g * 4294967296 ^ j) R:=by simpa using h6
    unfold cmpN at h6
    split at h6
    ·omega
    ·split at h6
     ·assumption
     ·omega
   have hgo:=guess_go hWW h6
   have hg1:0 < g:=Nat.lt_of_le_of_lt (Nat.zero_le _) hgo
   have e1:u64.wrap ((g:Int) - 1)=((g - 1:Nat):Int):=by rw [u64w (by omega)]; omega
   simp only [e1]
   refine fun V19 l19=>(c_num_Word (g - 1) (by omega)).mono ?_
   rintro r V20 l20 ⟨gp,gn,gc,rfl,h20⟩
   refine ⟨_,_,_,rfl,fun V21 l21=>(c_num_Product (hv15.le (l16.trans (l17.trans (l18.trans (l19.trans (l20.trans l21)))))) (h20.le l21) (by have:=hsz (g - 1) (by omega); omega)).mono ?_⟩
   rintro r V22 l22 ⟨pp,pn,pc,rfl,h22⟩
   rw [val_digs,val_digs] at h22
   refine ⟨_,_,_,rfl,fun V23 l23=>(c_num_Left (h22.le l23) (by have:=hsz (g - 1) (by omega); have:=hpl (g - 1); omega) (32 * j) (by omega)).mono ?_⟩
   rintro r V24 l24 ⟨tp,tn,tc,rfl,h24⟩
   rw [val_digs,pow32] at h24
   refine ⟨_,_,_,rfl,(((g - 1:Nat):Int),tp,tn,tc),?_,by (try dsimp only); and_intros <;> first | exact True.intro | rfl,g - 1,rfl,by omega,by omega,h24⟩
   (try dsimp only); omega
  ·have h6:W * g * 4294967296 ^ j<=R:=by
    have h6:¬ 0 < cmpN (W * g * 4294967296 ^ j) R:=by simpa using h6
    unfold cmpN at h6
    split at h6
    ·omega
    ·split at h6
     ·omega
     ·omega
   have hstop:=guess_stop hWW h6 hgq
   rw [← hstop] at hI'
   have hes:=hI.len
   refine ⟨⟨by omega,by omega⟩,by simp; omega,fun V25 l25=>(c_num_Less (hR15.le (l16.trans (l17.trans (l18.trans l25)))) (ht.le (l17.trans (l18.trans l25))) (by omega) (digs_len_mono h6) (by rw [val_digs,val_digs]; exact h6)).mono ?_⟩
   rintro r V26 l26 ⟨np,nn,nc,rfl,h26⟩
   rw [val_digs,val_digs] at h26
   have e1:u32.wrap (g:Int)=(g:Int):=u32w (by omega)
   have e2:(u32s es).set (0 + j * 1) (.int .u32 (g:Int))=u32s (es.set j g):=by rw [← u32s_set]; simp
   simp only [e1]
   refine ⟨_,_,_,rfl,(np,nn,nc,(j:Int) - 1,u32s (es.set j g)),?_,by (try dsimp only); and_intros <;> first | exact True.intro | rfl | exact e2 | (rw [← u32s_set]; simp),R - W * g * 4294967296 ^ j,h26,by (try dsimp only); omega,by (try dsimp only); omega,_,rfl,?_⟩
   ·(try dsimp only); omega
   ·(try dsimp only)
    rw [show ((j:Int) - 1 + 1).toNat=j from by omega]
    exact hI'
 ·have h3:j=-1:=by simp at h3; omega
  subst h3
  have hrl0:(digs R).length<=1099511627776:=by
   have h6:=hI.lt
   have h6:R < W:=by simpa using h6
   have:=digs_len_mono (Nat.le_of_lt h6)
   omega
  intro V8 l8 bk hb
  refine (c_num_Trim (RD.blk hb hI.dig (n:=L) (c:=L) hI.len.symm (Nat.le_refl _)) (by have:=hI.len; omega)).mono ?_
  rintro r V9 l9 ⟨k,rfl,h4⟩
  refine ⟨_,_,_,rfl,fun _ V10 l10=>(c_num_Right (hR.le (l8.trans (l9.trans l10))) hrl0 s (by omega)).mono ?_⟩
  rintro r V11 l11 ⟨p2,n2,c2,rfl,h5⟩
  rw [val_digs] at h5
  refine ⟨_,_,_,rfl,fun V12 l12=>⟨_,_,_,_,_,_,rfl,?_,?_⟩⟩
  ·have h6:=hI.lt
   have h7:=hI.eq
   have h6:R < W:=by simpa using h6
   have h7:A=W * val es + R:=by simpa using h7
   obtain ⟨g1,g2⟩:=hend h7 h6
   rw [trimD_eq hI.dig,g1] at h4
   exact h4.le (l10.trans (l11.trans l12))
  ·have h6:=hI.lt
   have h7:=hI.eq
   have h6:R < W:=by simpa using h6
   have h7:A=W * val es + R:=by simpa using h7
   obtain ⟨g1,g2⟩:=hend h7 h6
   rw [g2] at h5
   exact h5.le l12
end Go.Proofs.Tryz
/- Contracts of the reference's numbers: Divide. -/
namespace Go.Proofs.Tryz
open Go.Eng Go.Big
theorem word_val {x:Nat} (h:(digs x).length<=2):x < 18446744073709551616:=by
 have:=digs_len_le.1 h
 omega
theorem copied {V:View} {b n c:Nat} {ds:List Nat} {sp:List Value} {ty:TypeId} (hd:Dig ds) (hn:n=ds.length) (hc:n<=c) (hb:V.blk b (.cells (u32s ds++sp).toArray ty (0,0))):RD V (some ⟨b,0,none⟩) n c ds:=by
 refine ⟨hn,hc,fun i v hv=>⟨_,rfl,?_⟩,hd,fun e=>nomatch e⟩
 rw [add_zero']
 refine blk_at hb ?_
 rw [List.getElem?_append_left]
 ·exact hv
 ·rcases Nat.lt_or_ge i (u32s ds).length with e | e
  ·exact e
  ·rw [List.getElem?_eq_none e] at hv; cases hv
theorem c_num_Divide {V:View} {p q:OA} {n c m e:Nat} {x y:Nat} (hx:RN V p n c x) (hy:RN V q m e y) (hm:(digs x).length<=274877906944) (hm':(digs y).length<=274877906944) (hy0:0 < y) :
  Acts prog 150 #[.slice p n c,.slice q m e] V fun r V'=>∃p1 n1 c1 p2 n2 c2,r=.tuple #[.slice p1 n1 c1,.slice p2 n2 c2]/\RN V' p1 n1 c1 (x / y)/\RN V' p2 n2 c2 (x % y):=by
 have hlx:=hx.len
 have hly:=hy.len
 have hm0:0 < m:=by
  rcases Nat.eq_zero_or_pos m with h | h
  ·have:=digs_eq_nil.1 (List.length_eq_zero_iff.1 (hly ▸ h)); omega
  ·exact h
 refine vc_num_Divide p n c q m e V _ fun V1 l1=>(c_num_word (hx.le l1) (by omega)).mono ?_
 rintro r V2 l2 rfl
 rw [val_digs]
 refine ⟨_,_,rfl,fun z V'=>True,⟨fun h0=>?_,fun h0=>⟨(),by (try dsimp only); and_intros <;> first | exact True.intro | rfl,trivial⟩⟩,?_⟩
 ·have h0:n<=2:=by simpa using h0
  refine fun V3 l3=>(c_num_word (hy.le (l1.trans (l2.trans l3))) (by omega)).mono ?_
  rintro r V4 l4 rfl
  rw [val_digs]
  refine ⟨_,_,rfl,fun h1=>?_,fun h1=>⟨(),by (try dsimp only); and_intros <;> first | exact True.intro | rfl,trivial⟩⟩
  have h1:m<=2:=by simpa using h1
  have hxw:=word_val (x:=x) (by omega)
  have hyw:=word_val (x:=y) (by omega)
  rw [if_pos h0,if_pos h1]
  have hq:x / y<=x:=Nat.div_le_self _ _
  have hr:x % y < y:=Nat.mod_lt _ hy0
  have e1:((x:Nat):Int).tdiv (y:Int)=((x / y:Nat):Int):=by rw [Int.tdiv_eq_ediv_of_nonneg (by omega)]; omega
  have e2:((x:Nat):Int).tmod (y:Int)=((x % y:Nat):Int):=by rw [Int.tmod_eq_emod_of_nonneg (by omega)]; omega
  rw [e1,e2]
  generalize x / y=qq at *
  generalize x % y=rr at *
  have e3:u64.wrap (qq:Int)=qq:=u64w (by omega)
  rw [e3]
  refine ⟨by omega,by omega,fun V5 l5=>(c_num_Word qq (by omega)).mono ?_⟩
  rintro r V6 l6 ⟨p1,n1,c1,rfl,g1⟩
  refine ⟨_,_,_,rfl,fun V7 l7=>(c_num_Word rr (by omega)).mono ?_⟩
  rintro r V8 l8 ⟨p2,n2,c2,rfl,g2⟩
  exact ⟨_,_,_,rfl,fun V9 l9=>⟨_,_,_,_,_,_,rfl,g1.le (l7.trans (l8.trans l9)),g2.le l9⟩⟩
 rintro _ V10 l10 _
 replace hx:=hx.le (l1.trans (l2.trans l10))
 replace hy:=hy.le (l1.trans (l2.trans l10))
 refine ⟨by trivial,fun V11 l11=>(c_num_Cmp (hx.le l11) (hy.le l11) (by omega) (by omega)).mono ?_⟩
 rintro r V12 l12 rfl
 replace hx:=hx.le (l11.trans l12)
 replace hy:=hy.le (l11.trans l12)
 refine ⟨_,rfl,fun h0=>⟨u32s (digs x),hx.sl,by simp [hlx],by omega,by omega,by simp,by simp [hlx],?_,?_⟩,fun h0=>⟨fun h1=>?_,fun h1=>?_⟩⟩
 ·intro v hv
  simp only [u32s,List.mem_map] at hv
  obtain ⟨d,-,rfl⟩:=hv
  rfl
 ·have h0:x < y:=by simpa [cmpN_neg] using h0
  intro bk J sp c' h1 h2 V1 l1 b hb
  rw [Nat.div_eq_of_lt h0,Nat.mod_eq_of_lt h0]
  refine ⟨_,_,_,_,_,_,rfl,RD.nil,?_⟩
  simp only [Nat.zero_add,Nat.zero_mul,List.take_zero,List.nil_append] at hb h1 ⊢
  exact copied (dig_digs x) hlx h1 hb
 ·have h0:y<=x:=by simpa [← Int.not_lt,cmpN_neg] using h0
  have h1:m=1:=by simp at h1; omega
  subst h1
  obtain ⟨d,hd⟩:=one_of_len (ds:=digs y) (by omega)
  have hdy:d=y:=by have:=val_digs y; rw [hd] at this; simpa using this
  subst hdy
  have hdl:d < 4294967296:=by have:=dig_digs d; rw [hd] at this; exact (Dig.cons.1 this).1
  try unfold RN at hy
  rw [hd] at hy
  have hn0:0 < n:=by have:=digs_len_mono h0; omega
  have w1:i64.wrap ((n:Int) - 1)=(n:Int) - 1:=i64w (by omega)
  simp only [w1,Int.toNat_natCast,u32s_rep]
  have hdx:=dig_digs x
  have hvx:=val_digs x
  try unfold RN at hx
  clear hd
  rw [← hvx]
  clear hvx h0
  generalize digs x=xs at *
  refine ⟨by omega,by omega,by omega,fun z V'=>0<=z.1/\z.1 < d/\-1<=z.2.1/\z.2.1 < n/\∃es:List Nat,z.2.2=u32s es/\es.length=n/\Dig es /\
   val (xs.drop (z.2.1 + 1).toNat)=d * val (es.drop (z.2.1 + 1).toNat) + z.1.toNat,fun z=>(z.2.1 + 1).toNat,
   ⟨(0,(n:Int) - 1,u32s (List.replicate n 0)),by (try dsimp only); and_intros <;> first | exact True.intro | rfl,by (try dsimp only); omega,by (try dsimp only); omega,by (try dsimp only); omega,by (try dsimp only); omega,_,rfl,by simp,Dig.rep _,?_⟩,?_⟩
  ·(try dsimp only)
   rw [List.drop_of_length_le (by omega),List.drop_of_length_le (by simp)]; rfl
  rintro ⟨rest,i,vs⟩ V14 l14 ⟨hr0,hr1,hi0,hi1,es,rfl,hes,hde,hv⟩
  dsimp only at hr0 hr1 hi0 hi1 hv ⊢
  obtain ⟨rest,rfl⟩:=Int.eq_ofNat_of_zero_le hr0
  refine ⟨by trivial,fun h3=>?_,fun h3=>?_⟩
  ·have h3:0<=i:=by simpa using h3
   obtain ⟨i,rfl⟩:=Int.eq_ofNat_of_zero_le h3
   have hi2:((i:Int) + 1).toNat=i + 1:=by omega
   rw [hi2] at hv
   simp only [Int.toNat_natCast] at hv ⊢
   have hdxi:=hdx.get (i:=i) (by omega)
   refine (hx.le l14).rd i rfl (by omega) (rdOne (hy.le l14) (by simp) fun V15 l15=>(c_Div32 rest xs[i] d (by omega) hdxi hdl).mono ?_)
   rintro r V16 l16 rfl
   have hq:(rest * 4294967296 + xs[i]) / d < 4294967296:=by
    rw [Nat.div_lt_iff_lt_mul (by omega)]
    have:rest + 1<=d:=by omega
    have:=Nat.mul_le_mul_right 4294967296 this
    rw [Nat.mul_comm 4294967296 d]
    omega
   have hr:(rest * 4294967296 + xs[i]) % d < d:=Nat.mod_lt _ (by omega)
   have hdm:=Nat.div_add_mod (rest * 4294967296 + xs[i]) d
   generalize (rest * 4294967296 + xs[i]) / d=q at *
   generalize (rest * 4294967296 + xs[i]) % d=r at *
   have w2:i64.wrap ((i:Int) - 1)=(i:Int) - 1:=i64w (by omega)
   simp only [w2]
   refine ⟨_,_,rfl,⟨by omega,by omega⟩,by simp; omega,((r:Int),(i:Int) - 1,u32s (es.set i q)),?_,?_,?_⟩
   ·(try dsimp only); omega
   ·(try dsimp only); and_intros <;> first | exact True.intro | rfl | (rw [← u32s_set]; simp)
   ·(try dsimp only)
    refine ⟨by omega,by omega,by omega,by omega,_,rfl,by simpa using hes,hde.set _ _ (by omega),?_⟩
    have hi3:((i:Int) - 1 + 1).toNat=i:=by omega
    rw [hi3,List.drop_eq_getElem_cons (by omega),List.drop_eq_getElem_cons (l:=es.set i q) (by simp; omega),List.getElem_set_self,List.drop_set_of_lt (by omega)]
    have h9:xs[i] + 4294967296 * val (List.drop (i+1) xs)=d * (q + 4294967296 * val (List.drop (i+1) es)) + r:=short_step hv hdm
    rw [val_cons,val_cons,Int.toNat_natCast]
    exact h9
  ·have h3:i=-1:=by simp at h3; omega
   subst h3
   simp only [Int.toNat_natCast] at hv
   have hv:val xs=d * val es + rest:=by simpa using hv
   intro V17 l17 bk hb
   refine (c_num_Trim (RD.blk hb hde (n:=n) (c:=n) (by omega) (Nat.le_refl _)) (by omega)).mono ?_
   rintro r V18 l18 ⟨k,rfl,h4⟩
   refine ⟨_,_,_,rfl,fun _ V19 l19 bk2 hb2=>?_⟩
   have hb2:V19.blk bk2 (.cells (u32s [rest]).toArray 221 (0,0)):=by
    simpa [u32s] using hb2
   refine (c_num_Trim (RD.blk hb2 (n:=1) (c:=1) (by simp [Dig]; omega) rfl (Nat.le_refl _)) (by simp)).mono ?_
   rintro r V20 l20 ⟨k2,rfl,h5⟩
   refine ⟨_,_,_,rfl,fun _ V21 l21=>⟨_,_,_,_,_,_,rfl,?_,?_⟩⟩
   ·have e1:val xs / d=val es:=by rw [hv,Nat.mul_add_div (by omega),Nat.div_eq_of_lt (by omega),Nat.add_zero]
    rw [trimD_eq hde] at h4
    rw [e1]
    exact h4.le (l19.trans (l20.trans l21))
   ·have e2:val xs % d=rest:=by rw [hv,Nat.mul_add_mod,Nat.mod_eq_of_lt (by omega)]
    rw [trimD_eq (by simp [Dig]; omega)] at h5
    have e3:val [rest]=rest:=by simp
    rw [e3] at h5
    rw [e2]
    exact h5.le l21
 ·have h0:y<=x:=by simpa [← Int.not_lt,cmpN_neg] using h0
  refine fun V13 l13=>(c_num_long (hx.le l13) (hy.le l13) hm hy0 (digs_len_mono h0)).mono ?_
  rintro r V14 l14 ⟨p1,n1,c1,p2,n2,c2,rfl,g1,g2⟩
  exact ⟨_,_,_,_,_,_,rfl,fun V15 l15=>⟨_,_,_,_,_,_,rfl,g1.le l15,g2.le l15⟩⟩
end Go.Proofs.Tryz
/- Contracts of the reference's numbers: Common. -/
namespace Go.Proofs.Tryz
open Go.Eng Go.Big
theorem c_num_Common {V:View} {p q:OA} {n c m e:Nat} {x y:Nat} (hx:RN V p n c x) (hy:RN V q m e y) (hm:(digs x).length<=274877906944) (hm':(digs y).length<=274877906944) :
  Acts prog 148 #[.slice p n c,.slice q m e] V fun r V'=>∃p1 n1 c1,r=.slice p1 n1 c1/\RN V' p1 n1 c1 (Nat.gcd x y):=by
 have hlx:=hx.len
 have hly:=hy.len
 refine vc_num_Common p n c q m e V _ fun V1 l1=>(c_num_word (hx.le l1) (by omega)).mono ?_
 rintro r V2 l2 rfl
 rw [val_digs]
 refine ⟨_,_,rfl,fun z V'=>True,⟨fun h0=>?_,fun h0=>⟨(),by (try dsimp only); and_intros <;> first | exact True.intro | rfl,trivial⟩⟩,?_⟩
 ·have h0:n<=2:=by simpa using h0
  refine fun V3 l3=>(c_num_word (hy.le (l1.trans (l2.trans l3))) (by omega)).mono ?_
  rintro r V4 l4 rfl
  rw [val_digs]
  refine ⟨_,_,rfl,fun h1=>?_,fun h1=>⟨(),by (try dsimp only); and_intros <;> first | exact True.intro | rfl,trivial⟩⟩
  have h1:m<=2:=by simpa using h1
  have hxw:=word_val (x:=x) (by omega)
  have hyw:=word_val (x:=y) (by omega)
  rw [if_pos h0,if_pos h1]
  refine ⟨fun z V'=>∃a b:Nat,z=((a:Int),(b:Int))/\a < 18446744073709551616/\b < 18446744073709551616/\Nat.gcd a b=Nat.gcd x y,fun z=>z.2.toNat,
   ⟨((x:Int),(y:Int)),by (try dsimp only); and_intros <;> first | exact True.intro | rfl,x,y,rfl,hxw,hyw,rfl⟩,?_⟩
  rintro _ V5 l5 ⟨a,b,rfl,ha,hb,hg⟩
  dsimp only
  refine ⟨by trivial,fun h3=>?_,fun h3=>?_⟩
  ·have h3:0 < b:=by simpa using h3
   have e2:(a:Int).tmod (b:Int)=((a % b:Nat):Int):=by rw [Int.tmod_eq_emod_of_nonneg (by omega)]; omega
   have hr:a % b < b:=Nat.mod_lt _ h3
   refine ⟨by omega,((b:Int),((a % b:Nat):Int)),?_,by (try dsimp only); and_intros <;> first | exact True.intro | rfl | exact e2,b,a % b,rfl,hb,by omega,?_⟩
   ·(try dsimp only); simp only [Int.toNat_natCast]; exact hr
   ·rw [← hg,Nat.gcd_comm a b,Nat.gcd_rec b a,Nat.gcd_comm]
  ·have h3:b=0:=by simp at h3; omega
   subst h3
   rw [Nat.gcd_zero_right] at hg
   refine fun V6 l6=>(c_num_Word a ha).mono ?_
   rintro r V7 l7 ⟨p1,n1,c1,rfl,g1⟩
   rw [hg] at g1
   exact ⟨_,_,_,rfl,fun V8 l8=>⟨_,_,_,rfl,g1.le l8⟩⟩
 rintro _ V9 l9 _
 replace hx:=hx.le (l1.trans (l2.trans l9))
 replace hy:=hy.le (l1.trans (l2.trans l9))
 refine ⟨by trivial,fun z k V'=>∃a b:Nat,RN V' z.1 z.2.1 z.2.2.1 a/\RN V' z.2.2.2.1 z.2.2.2.2.1 z.2.2.2.2.2 b/\b=k/\(digs a).length<=274877906944/\(digs b).length<=274877906944/\Nat.gcd a b=Nat.gcd x y,
  ⟨(p,n,c,q,m,e),y,by (try dsimp only); and_intros <;> first | exact True.intro | rfl,x,y,hx,hy,rfl,hm,hm',rfl⟩,?_⟩
 rintro ⟨ap,an,ac,bp,bn,bc⟩ _ V10 l10 ⟨a,b,ha,hb,rfl,hal,hbl,hg⟩
 dsimp only at ha hb ⊢
 have hla:=ha.len
 have hlb:=hb.len
 refine ⟨by trivial,fun h3=>?_,fun h3=>?_⟩
 ·have h3:0 < bn:=by simpa using h3
  have hb0:0 < b:=by
   rcases Nat.eq_zero_or_pos b with h | h
   ·subst h; simp at hlb; omega
   ·exact h
  refine fun V11 l11=>(c_num_Divide (ha.le l11) (hb.le l11) hal hbl hb0).mono ?_
  rintro r V12 l12 ⟨p1,n1,c1,p2,n2,c2,rfl,g1,g2⟩
  have hr:a % b < b:=Nat.mod_lt _ hb0
  have hrl:=digs_len_mono (Nat.le_of_lt hr)
  refine ⟨_,_,_,_,_,_,rfl,(bp,bn,bc,p2,n2,c2),a % b,hr,by (try dsimp only); and_intros <;> first | exact True.intro | rfl,b,a % b,hb.le (l11.trans l12),g2,rfl,hbl,by omega,?_⟩
  rw [← hg,Nat.gcd_comm a b,Nat.gcd_rec b a,Nat.gcd_comm]
 ·have h3:bn=0:=by simp at h3; omega
  have hb0:b=0:=digs_eq_nil.1 (List.length_eq_zero_iff.1 (by omega))
  subst hb0
  rw [Nat.gcd_zero_right] at hg
  rw [← hg]
  refine ⟨u32s (digs a),ha.sl,by simp [hla],by omega,by omega,by simp,by simp [hla],?_,?_⟩
  ·intro v hv
   simp only [u32s,List.mem_map] at hv
   obtain ⟨d,-,rfl⟩:=hv
   rfl
  ·intro bk J sp c' h1 h2 V1 l1 b hb
   refine ⟨_,_,_,rfl,?_⟩
   simp only [Nat.zero_add,Nat.zero_mul,List.take_zero,List.nil_append] at hb h1 ⊢
   exact copied (dig_digs a) hla h1 hb
end Go.Proofs.Tryz
/- By program: the conditions of the functions, from their loaded code. -/
namespace Go.Proofs.Tryz
open Go.Eng
open Go.Value renaming int→I,pointer→P,slice→S,agg→A,bool→B,tuple→T
open Go.IntKind renaming i64→J,u64→U,u32→W
set_option maxRecDepth 100000
theorem vc_num_Make (b:Bool) (c:OA) (a d:Nat) (V:View) (R:VR) (h:((b=true->(Rt V R (A #[B (decide ((a:Int) > (0:Int))),S c a d])))/\(b=false->(Rt V R (A #[B false,S c a d]))))):
 Acts prog 82 #[B b,S c a d] V R:=
 fd (LF:=LF0) (RF:=[1000010]) [] [] func82 h
theorem vc_num_Int (a:Int) (V:View) (R:VR) (h:(((decide (a < (0:Int)))=true->(Ca V 92 #[I U (U.wrap (0 - (U.wrap a)))] fun t u=>∃b c d,t=S b c d/\(Ca u 82 #[B true,S b c d] fun w x=>∃e,∃f g i,w=A #[B e,S f g i]/\(Rt x R (A #[B e,S f g i])))))/\((decide (a < (0:Int)))=false->(Ca V 92 #[I U (U.wrap a)] fun y z=>∃l m n,y=S l m n/\(Ca z 82 #[B false,S l m n] fun a0 a1=>∃o,∃p q r,a0=A #[B o,S p q r]/\(Rt a1 R (A #[B o,S p q r]))))))):
 Acts prog 69 #[I J a] V R:=
 fd (LF:=LF0) (RF:=[1000010]) [] [] func69 h
theorem vc_num_Sign (a:Bool) (f:OA) (b g:Nat) (V:View) (R:VR) (h:((((b:Int) == (0:Int))=true->(Rt V R (I J 0)))/\(((b:Int) == (0:Int))=false->((a=true->(Rt V R (I J (-1))))/\(a=false->(Rt V R (I J 1))))))):
 Acts prog 143 #[A #[B a,S f b g]] V R:=
 fd (LF:=LF0) (RF:=[1000010]) [] [] func143 h
theorem vc_num_Minus (a:Bool) (b:OA) (c d:Nat) (V:View) (R:VR) (h:(Ca V 82 #[B (!a),S b c d] fun l m=>∃e,∃f g i,l=A #[B e,S f g i]/\(Rt m R (A #[B e,S f g i])))):
 Acts prog 198 #[A #[B a,S b c d]] V R:=
 fd (LF:=LF0) (RF:=[1000010]) [] [] func198 h
theorem vc_num_Add (a:Bool) (b:OA) (c d:Nat) (i:Bool) (e:OA) (f g:Nat) (V:View) (R:VR) (h:(((a == i)=true->(Ca V 145 #[S b c d,S e f g] fun b1 b2=>∃l m n,b1=S l m n/\(Ca b2 82 #[B a,S l m n] fun b3 b4=>∃o,∃p q r,b3=A #[B o,S p q r]/\(Rt b4 R (A #[B o,S p q r])))))/\((a == i)=false->(Ca V 146 #[S b c d,S e f g] fun b5 t=>∃k,b5=I J k/\(((decide (k < (0:Int)))=true->(Ca t 147 #[S e f g,S b c d] fun b6 b7=>∃u w x,b6=S u w x/\(Ca b7 82 #[B i,S u w x] fun b8 b9=>∃y,∃z a0 a1,b8=A #[B y,S z a0 a1]/\(Rt b9 R (A #[B y,S z a0 a1])))))/\((decide (k < (0:Int)))=false->(Ca t 147 #[S b c d,S e f g] fun c0 c1=>∃a3 a4 a5,c0=S a3 a4 a5/\(Ca c1 82 #[B a,S a3 a4 a5] fun c2 c3=>∃a6,∃a7 a8 a9,c2=A #[B a6,S a7 a8 a9]/\(Rt c3 R (A #[B a6,S a7 a8 a9])))))))))):
 Acts prog 79 #[A #[B a,S b c d],A #[B i,S e f g]] V R:=
 fd (LF:=LF0) (RF:=[1000010]) [] [] func79 h
theorem vc_num_Mul (a:Bool) (b:OA) (c d:Nat) (e:Bool) (f:OA) (g i:Nat) (V:View) (R:VR) (h:(Ca V 84 #[S b c d,S f g i] fun s t=>∃k l m,s=S k l m/\(Ca t 82 #[B (!(a == e)),S k l m] fun u w=>∃n,∃o p q,u=A #[B n,S o p q]/\(Rt w R (A #[B n,S o p q]))))):
 Acts prog 81 #[A #[B a,S b c d],A #[B e,S f g i]] V R:=
 fd (LF:=LF0) (RF:=[1000010]) [] [] func81 h
theorem vc_num_Den (k:Bool) (l:OA) (m n:Nat) (b:OA) (a c:Nat) (V:View) (R:VR) (h:((((a:Int) == (0:Int))=true->(Ca V 149 #[] fun o p=>∃d e f,o=S d e f/\(Rt p R (S d e f))))/\(((a:Int) == (0:Int))=false->(Rt V R (S b a c))))):
 Acts prog 83 #[A #[B k,S l m n,S b a c]] V R:=
 fd (LF:=LF0) (RF:=[1000010]) [] [] func83 h
theorem vc_num_Frac (g:Bool) (a:OA) (b c:Nat) (d:OA) (e f:Nat) (V:View) (R:VR) (h:(Ca V 148 #[S a b c,S d e f] fun b6 b7=>∃i k l,b6=S i k l/\(Ca b7 149 #[] fun b8 b9=>∃x y z,b8=S x y z/\(Ca b9 146 #[S i k l,S x y z] fun c0 a0=>∃m,c0=I J m/\(((m != (0:Int))=true->(Ca a0 150 #[S a b c,S i k l] fun c1 c2=>∃a1 a2 a3,∃c3 c4 c5,c1=T #[S a1 a2 a3,S c3 c4 c5]/\(Ca c2 82 #[B g,S a1 a2 a3] fun c6 c7=>∃n,∃o p q,c6=A #[B n,S o p q]/\(Ca c7 150 #[S d e f,S i k l] fun c8 c9=>∃r s t,∃d0 d1 d2,c8=T #[S r s t,S d0 d1 d2]/\(Ca c9 149 #[] fun d3 d4=>∃a4 a5 a6,d3=S a4 a5 a6/\(Ca d4 146 #[S r s t,S a4 a5 a6] fun d5 a7=>∃u,d5=I J u/\(((u == (0:Int))=true->(Rt a7 R (A #[B n,S o p q,S none 0 0])))/\((u == (0:Int))=false->(Rt a7 R (A #[B n,S o p q,S r s t]))))))))))/\((m != (0:Int))=false->(Ca a0 149 #[] fun d6 d7=>∃b0 b1 b2,d6=S b0 b1 b2/\(Ca d7 146 #[S d e f,S b0 b1 b2] fun d8 b3=>∃w,d8=I J w/\(((w == (0:Int))=true->(Rt b3 R (A #[B g,S a b c,S none 0 0])))/\((w == (0:Int))=false->(Rt b3 R (A #[B g,S a b c,S d e f])))))))))))):
 Acts prog 80 #[A #[B g,S a b c],S d e f] V R:=
 fd (LF:=LF0) (RF:=[1000010]) [] [] func80 h
theorem vc_num_Of (a:Int) (V:View) (R:VR) (h:(Ca V 69 #[I J a] fun g i=>∃b,∃c d e,g=A #[B b,S c d e]/\(Rt i R (A #[B b,S c d e,S none 0 0])))):
 Acts prog 19 #[I J a] V R:=
 fd (LF:=LF0) (RF:=[1000010]) [] [] func19 h
theorem vc_num_S (a:Bool) (b:OA) (c d:Nat) (g:OA) (i k:Nat) (V:View) (R:VR) (h:(Ca V 143 #[A #[B a,S b c d]] fun l m=>∃e,l=I J e/\(Rt m R (I J e)))):
 Acts prog 77 #[A #[B a,S b c d,S g i k]] V R:=
 fd (LF:=LF0) (RF:=[1000010]) [] [] func77 h
theorem vc_num_Opp (a:Bool) (b:OA) (c d:Nat) (e:OA) (f g:Nat) (V:View) (R:VR) (h:(Ca V 198 #[A #[B a,S b c d]] fun o p=>∃i,∃k l m,o=A #[B i,S k l m]/\(Rt p R (A #[B i,S k l m,S e f g])))):
 Acts prog 144 #[A #[B a,S b c d,S e f g]] V R:=
 fd (LF:=LF0) (RF:=[1000010]) [] [] func144 h
theorem vc_num_Plus (a:Bool) (b:OA) (c d:Nat) (m:OA) (k n:Nat) (e:Bool) (f:OA) (g i:Nat) (o:OA) (l p:Nat) (V:View) (R:VR) (h:((((k:Int) == (0:Int))=true->((((l:Int) == (0:Int))=true->(Ca V 79 #[A #[B a,S b c d],A #[B e,S f g i]] fun k2 k3=>∃q,∃r s t,k2=A #[B q,S r s t]/\(Rt k3 R (A #[B q,S r s t,S none 0 0]))))/\(((l:Int) == (0:Int))=false->(Ca V 83 #[A #[B e,S f g i,S o l p]] fun k4 k5=>∃w x y,k4=S w x y/\(Ca k5 82 #[B false,S w x y] fun k6 k7=>∃z,∃a0 a1 a2,k6=A #[B z,S a0 a1 a2]/\(Ca k7 81 #[A #[B a,S b c d],A #[B z,S a0 a1 a2]] fun k8 k9=>∃a3,∃a4 a5 a6,k8=A #[B a3,S a4 a5 a6]/\(Ca k9 83 #[A #[B a,S b c d,S m k n]] fun l0 l1=>∃a7 a8 a9,l0=S a7 a8 a9/\(Ca l1 82 #[B false,S a7 a8 a9] fun l2 l3=>∃b0,∃b1 b2 b3,l2=A #[B b0,S b1 b2 b3]/\(Ca l3 81 #[A #[B e,S f g i],A #[B b0,S b1 b2 b3]] fun l4 l5=>∃b4,∃b5 b6 b7,l4=A #[B b4,S b5 b6 b7]/\(Ca l5 79 #[A #[B a3,S a4 a5 a6],A #[B b4,S b5 b6 b7]] fun l6 l7=>∃b8,∃b9 c0 c1,l6=A #[B b8,S b9 c0 c1]/\(Ca l7 83 #[A #[B a,S b c d,S m k n]] fun l8 l9=>∃c2 c3 c4,l8=S c2 c3 c4/\(Ca l9 83 #[A #[B e,S f g i,S o l p]] fun m0 m1=>∃c5 c6 c7,m0=S c5 c6 c7/\(Ca m1 84 #[S c2 c3 c4,S c5 c6 c7] fun m2 m3=>∃c8 c9 d0,m2=S c8 c9 d0/\(Ca m3 80 #[A #[B b8,S b9 c0 c1],S c8 c9 d0] fun m4 m5=>∃d1,∃d2 d3 d4,∃d5 d6 d7,m4=A #[B d1,S d2 d3 d4,S d5 d6 d7]/\(Rt m5 R (A #[B d1,S d2 d3 d4,S d5 d6 d7]))))))))))))))))/\(((k:Int) == (0:Int))=false->(Ca V 83 #[A #[B e,S f g i,S o l p]] fun m6 m7=>∃d9 e0 e1,m6=S d9 e0 e1/\(Ca m7 82 #[B false,S d9 e0 e1] fun m8 m9=>∃e2,∃e3 e4 e5,m8=A #[B e2,S e3 e4 e5]/\(Ca m9 81 #[A #[B a,S b c d],A #[B e2,S e3 e4 e5]] fun n0 n1=>∃e6,∃e7 e8 e9,n0=A #[B e6,S e7 e8 e9]/\(Ca n1 83 #[A #[B a,S b c d,S m k n]] fun n2 n3=>∃f0 f1 f2,n2=S f0 f1 f2/\(Ca n3 82 #[B false,S f0 f1 f2] fun n4 n5=>∃f3,∃f4 f5 f6,n4=A #[B f3,S f4 f5 f6]/\(Ca n5 81 #[A #[B e,S f g i],A #[B f3,S f4 f5 f6]] fun n6 n7=>∃f7,∃f8 f9 g0,n6=A #[B f7,S f8 f9 g0]/\(Ca n7 79 #[A #[B e6,S e7 e8 e9],A #[B f7,S f8 f9 g0]] fun n8 n9=>∃g1,∃g2 g3 g4,n8=A #[B g1,S g2 g3 g4]/\(Ca n9 83 #[A #[B a,S b c d,S m k n]] fun o0 o1=>∃g5 g6 g7,o0=S g5 g6 g7/\(Ca o1 83 #[A #[B e,S f g i,S o l p]] fun o2 o3=>∃g8 g9 i0,o2=S g8 g9 i0/\(Ca o3 84 #[S g5 g6 g7,S g8 g9 i0] fun o4 o5=>∃i1 i2 i3,o4=S i1 i2 i3/\(Ca o5 80 #[A #[B g1,S g2 g3 g4],S i1 i2 i3] fun o6 o7=>∃i4,∃i5 i6 i7,∃i8 i9 k0,o6=A #[B i4,S i5 i6 i7,S i8 i9 k0]/\(Rt o7 R (A #[B i4,S i5 i6 i7,S i8 i9 k0])))))))))))))))):
 Acts prog 23 #[A #[B a,S b c d,S m k n],A #[B e,S f g i,S o l p]] V R:=
 fd (LF:=LF0) (RF:=[1000010]) [] [] func23 h
theorem vc_num_Sub (a:Bool) (b:OA) (c d:Nat) (e:OA) (f g:Nat) (i:Bool) (k:OA) (l m:Nat) (n:OA) (o p:Nat) (V:View) (R:VR) (h:(Ca V 144 #[A #[B i,S k l m,S n o p]] fun a6 a7=>∃q,∃r s t,∃u w x,a6=A #[B q,S r s t,S u w x]/\(Ca a7 23 #[A #[B a,S b c d,S e f g],A #[B q,S r s t,S u w x]] fun a8 a9=>∃y,∃z a0 a1,∃a2 a3 a4,a8=A #[B y,S z a0 a1,S a2 a3 a4]/\(Rt a9 R (A #[B y,S z a0 a1,S a2 a3 a4]))))):
 Acts prog 78 #[A #[B a,S b c d,S e f g],A #[B i,S k l m,S n o p]] V R:=
 fd (LF:=LF0) (RF:=[1000010]) [] [] func78 h
theorem vc_num_C (a:Bool) (b:OA) (c d:Nat) (e:OA) (f g:Nat) (i:Bool) (k:OA) (l m:Nat) (n:OA) (o p:Nat) (V:View) (R:VR) (h:(Ca V 78 #[A #[B a,S b c d,S e f g],A #[B i,S k l m,S n o p]] fun a0 a1=>∃q,∃r s t,∃u w x,a0=A #[B q,S r s t,S u w x]/\(Ca a1 77 #[A #[B q,S r s t,S u w x]] fun a2 a3=>∃y,a2=I J y/\(Rt a3 R (I J y))))):
 Acts prog 22 #[A #[B a,S b c d,S e f g],A #[B i,S k l m,S n o p]] V R:=
 fd (LF:=LF0) (RF:=[1000010]) [] [] func22 h
end Go.Proofs.Tryz
/- Contracts of the reference's integers: Make, Int, Sign, Minus, Add, Mul. -/
namespace Go.Proofs.Tryz
open Go.Eng Go.Big
theorem c_num_Make {V:View} (b:Bool) {p:OA} {n c x:Nat} (h:RN V p n c x) :
  Acts prog 82 #[.bool b,.slice p n c] V fun r V'=>RI V' r (if b then -(x:Int) else x):=by
 have hp:=len_pos_digs h.len
 refine vc_num_Make b p n c V _ ⟨fun h0 V1 l1=>?_,fun h0 V1 l1=>?_⟩
 ·rw [if_pos h0]
  refine RI.mk ?_ ?_
  ·rw [Bool.eq_iff_iff,decide_eq_true_eq,decide_eq_true_eq]
   omega
  ·rw [Int.natAbs_neg,Int.natAbs_natCast]; exact h.le l1
 ·rw [h0,if_neg (by decide)]
  refine RI.mk ?_ ?_
  ·symm; rw [decide_eq_false_iff_not]; omega
  ·rw [Int.natAbs_natCast]; exact h.le l1
theorem make_fin {V:View} {b:Bool} {p:OA} {n c x:Nat} {z:Int} (h:RN V p n c x) (hz:(if b then -(x:Int) else x)=z) :
  Acts prog 82 #[.bool b,.slice p n c] V fun r V'=>∃(b1_:Bool) (p2_:OA) (n2_ c2_:Nat),r=.agg #[.bool b1_,.slice p2_ n2_ c2_]/\∀V3:View,V'.Le V3->RI V3 (.agg #[.bool b1_,.slice p2_ n2_ c2_]) z:=by
 refine (c_num_Make b h).mono ?_
 rintro r V2 l2 ⟨p1,n1,c1,rfl,g⟩
 rw [hz] at g ⊢
 exact ⟨_,_,_,_,rfl,fun V3 l3=>⟨_,_,_,rfl,g.le l3⟩⟩
theorem c_num_Int {V:View} (n:Int) (h0:-9223372036854775808<=n) (h1:n<=9223372036854775807) :
  Acts prog 69 #[.int .i64 n] V fun r V'=>RI V' r n:=by
 refine vc_num_Int n V _ ⟨fun h2 V1 l1=>?_,fun h2 V1 l1=>?_⟩
 ·have h2:n < 0:=by simpa using h2
  have e:u64.wrap (0 - u64.wrap n)=((-n).toNat:Int):=by rw [u64m,u64m]; omega
  rw [e]
  refine (c_num_Word _ (by omega)).mono ?_
  rintro r V2 l2 ⟨p1,n1,c1,rfl,g1⟩
  exact ⟨_,_,_,rfl,fun V3 l3=>make_fin (g1.le l3) (by simp; omega)⟩
 ·have h2:0<=n:=by simpa using h2
  have e:u64.wrap n=(n.toNat:Int):=by rw [u64w (by omega)]; omega
  rw [e]
  refine (c_num_Word _ (by omega)).mono ?_
  rintro r V2 l2 ⟨p1,n1,c1,rfl,g1⟩
  exact ⟨_,_,_,rfl,fun V3 l3=>make_fin (g1.le l3) (by simp; omega)⟩
theorem c_num_Sign {V:View} (z:Int) {p:OA} {n c:Nat} (h:RN V p n c z.natAbs) :
  Acts prog 143 #[.agg #[.bool (decide (z < 0)),.slice p n c]] V fun r V'=>r=.int .i64 z.sign:=by
 have hp:=len_pos_digs h.len
 refine vc_num_Sign _ p n c V _ ⟨fun h0 V1 l1=>?_,fun h0=>⟨fun h1 V1 l1=>?_,fun h1 V1 l1=>?_⟩⟩
 ·have:z=0:=by simp at h0; omega
  rw [this]; rfl
 ·rw [decide_eq_true_eq] at h1
  rw [Int.sign_eq_neg_one_of_neg h1]
 ·rw [decide_eq_false_iff_not] at h1
  have:0 < z:=by simp at h0; omega
  rw [Int.sign_eq_one_of_pos this]
theorem c_num_Minus {V:View} (z:Int) {p:OA} {n c:Nat} (h:RN V p n c z.natAbs) :
  Acts prog 198 #[.agg #[.bool (decide (z < 0)),.slice p n c]] V fun r V'=>RI V' r (-z):=by
 refine vc_num_Minus _ p n c V _ fun V1 l1=>make_fin (h.le l1) ?_
 by_cases hz:z < 0 <;> simp [hz] <;> omega
theorem c_num_Mul {V:View} (z w:Int) {p q:OA} {n c m e:Nat} (ha:RN V p n c z.natAbs) (hb:RN V q m e w.natAbs) (hm:(digs z.natAbs).length + (digs w.natAbs).length<=1099511627776) :
  Acts prog 81 #[.agg #[.bool (decide (z < 0)),.slice p n c],.agg #[.bool (decide (w < 0)),.slice q m e]] V fun r V'=>RI V' r (z * w):=by
 refine vc_num_Mul _ p n c _ q m e V _ fun V1 l1=>(c_num_Product (ha.le l1) (hb.le l1) hm).mono ?_
 rintro r V2 l2 ⟨p1,n1,c1,rfl,g1⟩
 rw [val_digs,val_digs] at g1
 refine ⟨_,_,_,rfl,fun V3 l3=>make_fin (g1.le l3) ?_⟩
 have e1:z=ival (decide (z < 0)) (digs z.natAbs):=(ival_digs z).symm
 have e2:w=ival (decide (w < 0)) (digs w.natAbs):=(ival_digs w).symm
 conv=>rhs; rw [e1,e2]
 unfold ival
 rw [val_digs,val_digs]
 cases decide (z < 0) <;> cases decide (w < 0) <;> simp [Int.neg_mul,Int.mul_neg]
theorem c_num_Add {V:View} (z w:Int) {p q:OA} {n c m e:Nat} (ha:RN V p n c z.natAbs) (hb:RN V q m e w.natAbs) (hm:(digs z.natAbs).length<=1099511627776) (hn:(digs w.natAbs).length<=1099511627776) :
  Acts prog 79 #[.agg #[.bool (decide (z < 0)),.slice p n c],.agg #[.bool (decide (w < 0)),.slice q m e]] V fun r V'=>RI V' r (z + w):=by
 refine vc_num_Add _ p n c _ q m e V _ ⟨fun h0 V1 l1=>(c_num_Sum (ha.le l1) (hb.le l1) hm hn).mono ?_,fun h0 V1 l1=>(c_num_Cmp (ha.le l1) (hb.le l1) hm hn).mono ?_⟩
 ·rintro r V2 l2 ⟨p1,n1,c1,rfl,g1⟩
  rw [val_digs,val_digs] at g1
  refine ⟨_,_,_,rfl,fun V3 l3=>make_fin (g1.le l3) ?_⟩
  by_cases hz:z < 0 <;> by_cases hw:w < 0 <;> simp [hz,hw] at h0 ⊢ <;> omega
 ·rintro r V2 l2 rfl
  refine ⟨_,rfl,fun h2 V3 l3=>?_,fun h2 V3 l3=>?_⟩
  ·have h2:z.natAbs < w.natAbs:=by simpa [cmpN_neg] using h2
   refine (c_num_Less (hb.le (l1.trans (l2.trans l3))) (ha.le (l1.trans (l2.trans l3))) hn (digs_len_mono (Nat.le_of_lt h2)) (by rw [val_digs,val_digs]; omega)).mono ?_
   rintro r V4 l4 ⟨p1,n1,c1,rfl,g1⟩
   rw [val_digs,val_digs] at g1
   refine ⟨_,_,_,rfl,fun V5 l5=>make_fin (g1.le l5) ?_⟩
   by_cases hz:z < 0 <;> by_cases hw:w < 0 <;> simp [hz,hw] at h0 ⊢ <;> omega
  ·have h2:w.natAbs<=z.natAbs:=by simpa [← Int.not_lt,cmpN_neg] using h2
   refine (c_num_Less (ha.le (l1.trans (l2.trans l3))) (hb.le (l1.trans (l2.trans l3))) hm (digs_len_mono h2) (by rw [val_digs,val_digs]; omega)).mono ?_
   rintro r V4 l4 ⟨p1,n1,c1,rfl,g1⟩
   rw [val_digs,val_digs] at g1
   refine ⟨_,_,_,rfl,fun V5 l5=>make_fin (g1.le l5) ?_⟩
   by_cases hz:z < 0 <;> by_cases hw:w < 0 <;> simp [hz,hw] at h0 ⊢ <;> omega
end Go.Proofs.Tryz
/- Contracts of the reference's rational numbers: Den, Frac, Of, S, Opp. -/
namespace Go.Eng
open Go.Big
/-- The digits of a denominator; none stands for 1. -/
def dend (d:Nat):List Nat:=if d=1 then [] else digs d
/-- A rational number of the reference. -/
def RQ (V:View) (v:Value) (q:Rat):Prop:=∃p n c p' n' c',v=.agg #[.bool (decide (q.num < 0)),.slice p n c,.slice p' n' c'] /\
 RD V p n c (digs q.num.natAbs)/\RD V p' n' c' (dend q.den)
theorem RQ.le {V V':View} {v:Value} {q:Rat} (h:RQ V v q) (l:V.Le V'):RQ V' v q:=by
 obtain ⟨p,n,c,p',n',c',e,h1,h2⟩:=h
 exact ⟨p,n,c,p',n',c',e,h1.le l,h2.le l⟩
theorem dend_nil {q:Rat}:dend q.den=[]↔q.den=1:=by
 unfold dend
 split
 ·rename_i h; simp [h]
 ·rename_i h
  rw [digs_eq_nil]
  have:=q.den_nz
  omega
end Go.Eng
namespace Go.Proofs.Tryz
open Go.Eng Go.Big
theorem dend_len {V:View} {q:Rat} {p:OA} {n c:Nat} (h:RD V p n c (dend q.den)):n=0↔q.den=1:=by
 rw [← dend_nil,h.len,List.length_eq_zero_iff]
theorem c_num_Den {V:View} (q:Rat) {p p':OA} {n c n' c':Nat} (b:Bool) (h2:RD V p' n' c' (dend q.den)) :
  Acts prog 83 #[.agg #[.bool b,.slice p n c,.slice p' n' c']] V fun r V'=>∃p1 n1 c1,r=.slice p1 n1 c1/\RN V' p1 n1 c1 q.den:=by
 have hl:=dend_len h2
 refine vc_num_Den b p n c p' n' c' V _ ⟨fun h0 V1 l1=>c_num_One.mono ?_,fun h0 V1 l1=>⟨_,_,_,rfl,?_⟩⟩
 ·rintro r V2 l2 ⟨p1,n1,c1,rfl,g⟩
  have:q.den=1:=hl.1 (by simp at h0; omega)
  rw [this]
  exact ⟨_,_,_,rfl,fun V3 l3=>⟨_,_,_,rfl,g.le l3⟩⟩
 ·have:q.den≠1:=fun e=>by have:=hl.2 e; simp at h0; omega
  unfold dend at h2
  rw [if_neg this] at h2
  exact h2.le l1
theorem rq_of {V:View} {q:Rat} {z:Int} {d:Nat} {p p':OA} {n c n' c':Nat} (hn:q.num=z) (hd:q.den=d) (h1:RD V p n c (digs z.natAbs)) (h2:RD V p' n' c' (dend d)) {b:Bool} (hb:b=decide (z < 0)) :
  RQ V (.agg #[.bool b,.slice p n c,.slice p' n' c']) q:=by
 subst hn hd hb
 exact ⟨_,_,_,_,_,_,rfl,h1,h2⟩
theorem c_num_Frac {V:View} (z:Int) {d:Nat} {p q:OA} {n c m e:Nat} (hx:RN V p n c z.natAbs) (hy:RN V q m e d) (hm:(digs z.natAbs).length<=274877906944) (hn:(digs d).length<=274877906944) (hd:d≠0) :
  Acts prog 80 #[.agg #[.bool (decide (z < 0)),.slice p n c],.slice q m e] V fun r V'=>RQ V' r (mkRat z d):=by
 refine vc_num_Frac _ p n c q m e V _ fun V1 l1=>(c_num_Common (hx.le l1) (hy.le l1) hm hn).mono ?_
 rintro r V2 l2 ⟨p1,n1,c1,rfl,hg⟩
 have hgd:=Nat.gcd_dvd_right z.natAbs d
 have hgx:=Nat.gcd_dvd_left z.natAbs d
 have hgp:0 < Nat.gcd z.natAbs d:=Nat.gcd_pos_of_pos_right _ (by omega)
 have hgl:(digs (Nat.gcd z.natAbs d)).length<=274877906944:=Nat.le_trans (digs_len_mono (Nat.le_of_dvd (by omega) hgd)) hn
 have hnum:(mkRat z d).num=z / (Nat.gcd d z.natAbs:Nat):=by rw [Rat.num_mkRat,if_neg hd]
 have hden:(mkRat z d).den=d / Nat.gcd d z.natAbs:=by rw [Rat.den_mkRat,if_neg hd]
 rw [Nat.gcd_comm d] at hnum hden
 generalize hG:Nat.gcd z.natAbs d=g at *
 generalize mkRat z d=w at *
 refine ⟨_,_,_,rfl,fun V3 l3=>c_num_One.mono ?_⟩
 rintro r V4 l4 ⟨p2,n2,c2,rfl,h1⟩
 refine ⟨_,_,_,rfl,fun V5 l5=>(c_num_Cmp (hg.le (l3.trans (l4.trans l5))) (h1.le l5) (by omega) (by decide)).mono ?_⟩
 rintro r V6 l6 rfl
 replace hx:=hx.le (l1.trans (l2.trans (l3.trans (l4.trans (l5.trans l6)))))
 replace hy:=hy.le (l1.trans (l2.trans (l3.trans (l4.trans (l5.trans l6)))))
 replace hg:=hg.le (l3.trans (l4.trans (l5.trans l6)))
 refine ⟨_,rfl,fun h0 V7 l7=>(c_num_Divide (hx.le l7) (hg.le l7) hm hgl hgp).mono ?_,fun h0 V19 l19=>c_num_One.mono ?_⟩
 ·rintro r V8 l8 ⟨p4,n4,c4,p5,n5,c5,rfl,g1,-⟩
  have hnd:(mkRat z d).num.natAbs=(mkRat z d).num.natAbs:=rfl
  obtain ⟨k,hk⟩:=hgx
  have hk1:z.natAbs / g=k:=by rw [hk,Nat.mul_div_cancel_left _ hgp]
  rw [hk1] at g1
  have hz:z=(g:Int) * (if z < 0 then -(k:Int) else k):=by
   split
   ·rw [Int.mul_neg,← Int.natCast_mul,← hk]; omega
   ·rw [← Int.natCast_mul,← hk]; omega
  have hwn:w.num=(if z < 0 then -(k:Int) else k):=by
   rw [hnum]
   generalize (if z < 0 then -(k:Int) else k)=t at *
   rw [hz,Int.mul_ediv_cancel_left _ (by omega)]
  refine ⟨_,_,_,_,_,_,rfl,fun V9 l9=>(c_num_Make _ (g1.le l9)).mono ?_⟩
  have hite:(if decide (z < 0)=true then -(k:Int) else k)=w.num:=by
   rw [hwn]; simp
  rw [hite]
  rintro r V10 l10 ⟨p7,n7,c7,rfl,g2⟩
  refine ⟨_,_,_,_,rfl,fun V11 l11=>(c_num_Divide (hy.le (l7.trans (l8.trans (l9.trans (l10.trans l11))))) (hg.le (l7.trans (l8.trans (l9.trans (l10.trans l11))))) hn hgl hgp).mono ?_⟩
  rintro r V12 l12 ⟨p8,n8,c8,p9,n9,c9,rfl,g3,-⟩
  rw [← hden] at g3
  refine ⟨_,_,_,_,_,_,rfl,fun V13 l13=>c_num_One.mono ?_⟩
  rintro r V14 l14 ⟨p10,n10,c10,rfl,g4⟩
  have hdl:(digs w.den).length<=274877906944:=by rw [hden]; exact Nat.le_trans (digs_len_mono (Nat.div_le_self _ _)) hn
  refine ⟨_,_,_,rfl,fun V15 l15=>(c_num_Cmp (g3.le (l13.trans (l14.trans l15))) (g4.le l15) (by omega) (by decide)).mono ?_⟩
  rintro r V16 l16 rfl
  refine ⟨_,rfl,fun h9 V17 l17=>rq_of rfl rfl (g2.le (l11.trans (l12.trans (l13.trans (l14.trans (l15.trans (l16.trans l17))))))) ?_ rfl,fun h9 V18 l18=>rq_of rfl rfl (g2.le (l11.trans (l12.trans (l13.trans (l14.trans (l15.trans (l16.trans l18))))))) ?_ rfl⟩
  ·have:w.den=1:=cmpN_zero.1 (by simpa using h9)
   rw [dend_nil.2 this]; exact RD.nil
  ·have:w.den≠1:=fun e=>by rw [cmpN_zero.2 e] at h9; simp at h9
   unfold dend
   rw [if_neg this]
   exact g3.le (l13.trans (l14.trans (l15.trans (l16.trans l18))))
 ·have hg1:g=1:=cmpN_zero.1 (by simpa using h0)
  have hwn:w.num=z:=by rw [hnum,hg1]; simp
  have hwd:w.den=d:=by rw [hden,hg1]; simp
  rintro r V20 l20 ⟨p12,n12,c12,rfl,g4⟩
  refine ⟨_,_,_,rfl,fun V21 l21=>(c_num_Cmp (hy.le (l19.trans (l20.trans l21))) (g4.le l21) (by omega) (by decide)).mono ?_⟩
  rintro r V22 l22 rfl
  refine ⟨_,rfl,fun h9 V17 l17=>rq_of hwn hwd (hx.le (l19.trans (l20.trans (l21.trans (l22.trans l17))))) ?_ rfl,fun h9 V18 l18=>rq_of hwn hwd (hx.le (l19.trans (l20.trans (l21.trans (l22.trans l18))))) ?_ rfl⟩
  ·have:d=1:=cmpN_zero.1 (by simpa using h9)
   unfold dend
   rw [if_pos this]; exact RD.nil
  ·have:d≠1:=fun e=>by rw [cmpN_zero.2 e] at h9; simp at h9
   unfold dend
   rw [if_neg this]
   exact hy.le (l19.trans (l20.trans (l21.trans (l22.trans l18))))
theorem c_num_Of {V:View} (n:Int) (h0:-9223372036854775808<=n) (h1:n<=9223372036854775807) :
  Acts prog 19 #[.int .i64 n] V fun r V'=>RQ V' r (n:Rat):=by
 refine vc_num_Of n V _ fun V1 l1=>(c_num_Int n h0 h1).mono ?_
 rintro r V2 l2 ⟨p,m,c,rfl,g⟩
 exact ⟨_,_,_,_,rfl,fun V3 l3=>rq_of (z:=n) (d:=1) rfl rfl (g.le l3) RD.nil rfl⟩
theorem c_num_S {V:View} (q:Rat) {p p':OA} {n c n' c':Nat} (h1:RD V p n c (digs q.num.natAbs)) :
  Acts prog 77 #[.agg #[.bool (decide (q.num < 0)),.slice p n c,.slice p' n' c']] V fun r V'=>r=.int .i64 q.num.sign:=by
 refine vc_num_S _ p n c p' n' c' V _ fun V1 l1=>(c_num_Sign q.num (h1.le l1)).mono ?_
 rintro r V2 l2 rfl
 exact ⟨_,rfl,fun V3 l3=>rfl⟩
theorem c_num_Opp {V:View} (q:Rat) {p p':OA} {n c n' c':Nat} (h1:RD V p n c (digs q.num.natAbs)) (h2:RD V p' n' c' (dend q.den)) :
  Acts prog 144 #[.agg #[.bool (decide (q.num < 0)),.slice p n c,.slice p' n' c']] V fun r V'=>RQ V' r (-q):=by
 refine vc_num_Opp _ p n c p' n' c' V _ fun V1 l1=>(c_num_Minus q.num (h1.le l1)).mono ?_
 rintro r V2 l2 ⟨p1,n1,c1,rfl,g⟩
 exact ⟨_,_,_,_,rfl,fun V3 l3=>rq_of (q:=-q) (z:=-q.num) (d:=q.den) (by rfl) (by rfl) (g.le l3) ((h2.le l1).le (l2.trans l3)) rfl⟩
end Go.Proofs.Tryz
/- Contracts of the reference's rational numbers: Plus, Sub, Times, C. -/
namespace Go.Proofs.Tryz
open Go.Eng Go.Big
theorem c_num_pos {V:View} {p:OA} {n c x:Nat} (h:RN V p n c x) :
  Acts prog 82 #[.bool false,.slice p n c] V fun r V'=>RI V' r (x:Int):=by
 have:=c_num_Make false h
 rwa [if_neg (by decide)] at this
theorem den_one_len {x:Rat} {k:Nat} (h:Sz k x):(digs x.num.natAbs).length<=k/\(digs x.den).length<=k/\(digs (x.den:Int).natAbs).length<=k:=⟨digs_len_bits h.1,digs_len_bits h.2,digs_len_bits h.2⟩
theorem c_num_Plus {V:View} {v w:Value} {x y:Rat} (hx:RQ V v x) (hy:RQ V w y) {k m:Nat} (hk:Sz k x) (hm:Sz m y) (hkm:k + m < 274877906944) :
  Acts prog 23 #[v,w] V fun r V'=>RQ V' r (x + y):=by
 obtain ⟨p,n,c,p',n',c',rfl,hx1,hx2⟩:=hx
 obtain ⟨q,i,e,q',i',e',rfl,hy1,hy2⟩:=hy
 have hlx:=dend_len hx2
 have hly:=dend_len hy2
 obtain ⟨b1,b2,b3,b4⟩:=add_bits hk hm
 obtain ⟨d1,d2,d3⟩:=den_one_len hk
 obtain ⟨d4,d5,d6⟩:=den_one_len hm
 have hxy:x + y=mkRat (x.num * y.den + y.num * x.den) (x.den * y.den):=Rat.add_def' x y
 refine (fun tail=>vc_num_Plus _ p n c p' n' c' _ q i e q' i' e' V _ ⟨fun h0=>⟨fun h1 V1 l1=>?_,fun _=>tail⟩,fun _=>tail⟩) ?_
 ·clear tail
  have h0:x.den=1:=hlx.1 (by simp at h0; omega)
  have h1:y.den=1:=hly.1 (by simp at h1; omega)
  refine (c_num_Add x.num y.num (hx1.le l1) (hy1.le l1) (by omega) (by omega)).mono ?_
  rintro r V2 l2 ⟨p2,n2,c2,rfl,g⟩
  have e1:x + y=((x.num + y.num:Int):Rat):=by
   rw [hxy,h0,h1]; simp [Rat.mkRat_one]
  rw [e1]
  exact ⟨_,_,_,_,rfl,fun V3 l3=>rq_of (z:=x.num + y.num) (d:=1) rfl rfl (g.le l3) RD.nil rfl⟩
 ·intro V1 l1
  refine (c_num_Den y _ (hy2.le l1)).mono ?_
  rintro r V2 l2 ⟨p1,n1,c1,rfl,g1⟩
  refine ⟨_,_,_,rfl,fun V3 l3=>(c_num_pos (g1.le l3)).mono ?_⟩
  rintro r V4 l4 ⟨p3,n3,c3,rfl,g3⟩
  have l04:=l1.trans (l2.trans (l3.trans l4))
  refine ⟨_,_,_,_,rfl,fun V5 l5=>(c_num_Mul x.num y.den (hx1.le (l04.trans l5)) (g3.le l5) (by omega)).mono ?_⟩
  rintro r V6 l6 ⟨p5,n5,c5,rfl,g5⟩
  have l06:=l04.trans (l5.trans l6)
  refine ⟨_,_,_,_,rfl,fun V7 l7=>(c_num_Den x _ (hx2.le (l06.trans l7))).mono ?_⟩
  rintro r V8 l8 ⟨p7,n7,c7,rfl,g7⟩
  have l08:=l06.trans (l7.trans l8)
  refine ⟨_,_,_,rfl,fun V9 l9=>(c_num_pos (g7.le l9)).mono ?_⟩
  rintro r V10 l10 ⟨p9,n9,c9,rfl,g9⟩
  have l10':=l08.trans (l9.trans l10)
  refine ⟨_,_,_,_,rfl,fun V11 l11=>(c_num_Mul y.num x.den (hy1.le (l10'.trans l11)) (g9.le l11) (by omega)).mono ?_⟩
  rintro r V12 l12 ⟨p11,n11,c11,rfl,g11⟩
  have l012:=l10'.trans (l11.trans l12)
  refine ⟨_,_,_,_,rfl,fun V13 l13=>(c_num_Add _ _ (g5.le (l7.trans (l8.trans (l9.trans (l10.trans (l11.trans (l12.trans l13))))))) (g11.le l13) (Nat.le_trans (digs_len_bits b1) (by omega)) (Nat.le_trans (digs_len_bits b2) (by omega))).mono ?_⟩
  rintro r V14 l14 ⟨p13,n13,c13,rfl,g13⟩
  have l014:=l012.trans (l13.trans l14)
  refine ⟨_,_,_,_,rfl,fun V15 l15=>(c_num_Den x _ (hx2.le (l014.trans l15))).mono ?_⟩
  rintro r V16 l16 ⟨p15,n15,c15,rfl,g15⟩
  have l016:=l014.trans (l15.trans l16)
  refine ⟨_,_,_,rfl,fun V17 l17=>(c_num_Den y _ (hy2.le (l016.trans l17))).mono ?_⟩
  rintro r V18 l18 ⟨p17,n17,c17,rfl,g17⟩
  refine ⟨_,_,_,rfl,fun V19 l19=>(c_num_Product (g15.le (l17.trans (l18.trans l19))) (g17.le l19) (by omega)).mono ?_⟩
  rintro r V20 l20 ⟨p19,n19,c19,rfl,g19⟩
  rw [val_digs,val_digs] at g19
  refine ⟨_,_,_,rfl,fun V21 l21=>(c_num_Frac _ (g13.le (l15.trans (l16.trans (l17.trans (l18.trans (l19.trans (l20.trans l21))))))) (g19.le l21) (Nat.le_trans (digs_len_bits b3) (by omega)) (Nat.le_trans (digs_len_bits b4) (by omega)) (Nat.mul_ne_zero x.den_nz y.den_nz)).mono ?_⟩
  rw [hxy]
  rintro r V22 l22 ⟨p21,n21,c21,p22,n22,c22,rfl,g21,g22⟩
  exact ⟨_,_,_,_,_,_,_,rfl,fun V23 l23=>⟨_,_,_,_,_,_,rfl,g21.le l23,g22.le l23⟩⟩
theorem c_num_Sub {V:View} {v w:Value} {x y:Rat} (hx:RQ V v x) (hy:RQ V w y) {k m:Nat} (hk:Sz k x) (hm:Sz m y) (hkm:k + m < 274877906944) :
  Acts prog 78 #[v,w] V fun r V'=>RQ V' r (x - y):=by
 have hx0:=hx
 obtain ⟨p,n,c,p',n',c',rfl,hx1,hx2⟩:=hx
 obtain ⟨q,i,e,q',i',e',rfl,hy1,hy2⟩:=hy
 refine vc_num_Sub _ p n c p' n' c' _ q i e q' i' e' V _ fun V1 l1=>(c_num_Opp y (hy1.le l1) (hy2.le l1)).mono ?_
 rintro r V2 l2 h2
 obtain ⟨p1,n1,c1,p2,n2,c2,rfl,g1,g2⟩:=id h2
 refine ⟨_,_,_,_,_,_,_,rfl,fun V3 l3=>(c_num_Plus (hx0.le (l1.trans (l2.trans l3))) (h2.le l3) hk hm.neg hkm).mono ?_⟩
 rw [← Rat.sub_eq_add_neg]
 rintro r V4 l4 ⟨p3,n3,c3,p4,n4,c4,rfl,g3,g4⟩
 exact ⟨_,_,_,_,_,_,_,rfl,fun V5 l5=>⟨_,_,_,_,_,_,rfl,g3.le l5,g4.le l5⟩⟩
theorem c_num_C {V:View} {v w:Value} {x y:Rat} (hx:RQ V v x) (hy:RQ V w y) {k m:Nat} (hk:Sz k x) (hm:Sz m y) (hkm:k + m < 274877906944) :
  Acts prog 22 #[v,w] V fun r V'=>r=.int .i64 (cmpQ x y):=by
 have hx0:=hx
 have hy0:=hy
 obtain ⟨p,n,c,p',n',c',rfl,hx1,hx2⟩:=hx
 obtain ⟨q,i,e,q',i',e',rfl,hy1,hy2⟩:=hy
 refine vc_num_C _ p n c p' n' c' _ q i e q' i' e' V _ fun V1 l1=>(c_num_Sub (hx0.le l1) (hy0.le l1) hk hm hkm).mono ?_
 rintro r V2 l2 ⟨p1,n1,c1,p2,n2,c2,rfl,g1,g2⟩
 refine ⟨_,_,_,_,_,_,_,rfl,fun V3 l3=>(c_num_S (x - y) (g1.le l3)).mono ?_⟩
 rintro r V4 l4 rfl
 exact ⟨_,rfl,fun V5 l5=>rfl⟩
end Go.Proofs.Tryz
/- By program: the conditions of the functions, from their loaded code. -/
namespace Go.Proofs.Tryz
open Go.Eng
open Go.Value renaming int→I,pointer→P,slice→S,agg→A,bool→B,tuple→T
open Go.IntKind renaming i64→J,u64→U,u32→W
set_option maxRecDepth 100000
theorem vc_ref01_ToN (e:OA) (a i:Nat) (V:View) (R:VR) (h:(∃b:List Value,V.sl e b/\b.length=a * 1/\((0 + a) * 4<=140737488355328/\0<=0/\0 * 1<=([]:List Value).length/\b.length=a * 1/\(∀k ∈ b,k.oneCell'=true)/\∀(l:Nat) (m:C->Value) (f:List Value) (c:Nat),0 + a<=c->c * 1<=(0 + a) * 1 + f.length->(∀d,V.Le d->∀g:Nat,(d.blk g (.cells (([]:List Value).take (0 * 1)++b++f).toArray 221 (0,0)))->R (S (some ⟨g,0,none⟩) (0 + a) c) d)))):
 Acts prog 91 #[S e a i] V R:=
 fd (LF:=LF0) (RF:=[1000010]) [] [] func91 h
theorem vc_ref01_ToI (a:Bool) (b:OA) (c d:Nat) (V:View) (R:VR) (h:(Ca V 91 #[S b c d] fun k l=>∃e f g,k=S e f g/\(Rt l R (A #[B a,S e f g])))):
 Acts prog 90 #[A #[B a,S b c d]] V R:=
 fd (LF:=LF0) (RF:=[1000010]) [] [] func90 h
theorem vc_ref01_SameN (f:OA) (b i:Nat) (g:OA) (e k:Nat) (V:View) (R:VR) (h:((((b:Int) != (e:Int))=true->(Rt V R (B false)))/\(((b:Int) != (e:Int))=false->(∃(l:Int->VP) (q:Int->Nat),(∃r:Int,(s7 f b i g e k (b:Int) (((0:Int)=r)))/\l r V)/\∀(a:Int) (d:View),V.Le d->l a d->(true=true/\(((decide (a < (b:Int)))=true->(f.isSome=true)/\(0<=a/\a < (b:Int))/\(∃m,(∃s,addrAdd f (a.toNat * 1)=some s/\d.at s (I W m))/\(g.isSome=true)/\(0<=a/\a < (e:Int))/\(∃n,(∃t,addrAdd g (a.toNat * 1)=some t/\d.at t (I W n))/\(((m != n)=true->(Rt d R (B false)))/\((m != n)=false->(∃o:Int,q o < q a/\(s7 f b i g e k (b:Int) (((J.wrap (a + (1:Int)))=o)))/\l o d))))))/\((decide (a < (b:Int)))=false->(Rt d R (B true))))))))):
 Acts prog 98 #[S f b i,S g e k] V R:=
 fd (LF:=LF0) (RF:=[1000010]) [(4,⟨Int,false,[0,1,12],[],fun x=>[(13,.c (.v (I J x)))],fun x=>[]⟩)] [] func98 h
theorem vc_ref01_SameI (a:Bool) (c:OA) (d e:Nat) (b:Bool) (f:OA) (g i:Nat) (V:View) (R:VR) (h:(((a == b)=true->(Ca V 98 #[S c d e,S f g i] fun n o=>∃k,n=B k/\(Rt o R (B k))))/\((a == b)=false->(Rt V R (B false))))):
 Acts prog 97 #[A #[B a,S c d e],A #[B b,S f g i]] V R:=
 fd (LF:=LF0) (RF:=[1000010]) [] [] func97 h
end Go.Proofs.Tryz
