import Derived.Test.YtdhlkpfmlimjfaaGreatDoorR10
import Derived.Test.YtdhlkpfmlimjfaaGreatDoorR7
set_option linter.unusedVariables false
open Go.IntKind (i64 u64 u32)
namespace Go.Proofs.Tryz
open Go.Eng Go.Big
theorem _root_.Go.Eng.RD.R4 {V:View}{p:OA}{n c:Nat}{ds:List Nat}(h:RD V p n c ds){i:Int}{K:Int->Prop}(j:Nat)(hj:i=j)(hn:j<ds.length)
  (hK:K ((ds[j]:Nat):Int)):(p.isSome=true)/\(0<=i/\i<(n:Int))/\∃x:Int,(∃a,addrAdd p j=some a/\V.at a (.int .u32 x))/\K x:=by
 have:=h.rd (K:=K) j hj hn hK
 subst hj
 simpa only [Int.toNat_natCast,Nat.mul_one] using this
theorem GV {us:List Nat}{rest:List Value}{k:Nat}(h:k<us.length):(aA us++rest)[0+k*1]?=some (.int .u32 (us[k]:Int)):=by
 rw [Nat.zero_add,Nat.mul_one,List.getElem?_append_left (by simpa using h)]
 exact eM h
theorem qe {us:List Nat}{rest:List Value}{k x:Nat}(h:k<us.length):(aA us++rest).set (0+k*1) (.int .u32 (x:Int))=aA (us.set k x)++rest:=by
 rw [Nat.zero_add,Nat.mul_one,List.set_append_left _ _ (by simpa using h),aX]
theorem zf {y m t s:Nat}(hm:(ae y).length=m)(h0:0<m)(ht:t=(ae y)[m-1]'(by omega))(hs:s=32-bg t) :
  s<32/\(ae (y*2^s)).length=m/\2147483648*4294967296^(m-1)<=y*2^s:=by
 have d:t<4294967296:=by rw [ht];exact (aB y).get _
 have a:t≠0:=by rw [ht];have:=(fo y).last (by omega);simpa [hm] using this
 have f:=mr t
 have g:=mq a
 have b:bg t<=32:=gR.2 (by omega)
 have h:0<bg t:=by unfold bg;rw [if_neg a];omega
 have e:=e_ (ae y) (m-1) (by omega)
 rw [ab,List.drop_of_length_le (by omega),←ht] at e
 simp only [di,Nat.mul_zero,Nat.add_zero] at e
 have c:=dR ((aB y).take (m-1))
 rw [List.length_take,Nat.min_eq_left (by omega)] at c
 have i:2^bg t*2^s=4294967296:=by rw [←Nat.pow_add,hs,Nat.add_sub_cancel' b]
 have j:2^(bg t-1)*2^s=2147483648:=by rw [←Nat.pow_add,show bg t-1+s=31 from by omega]
 have k:2147483648*4294967296^(m-1)<=y*2^s:=by
  have:2^(bg t-1)*2^s*4294967296^(m-1)<=t*2^s*4294967296^(m-1):=Nat.mul_le_mul_right _ (Nat.mul_le_mul_right _ g)
  rw [j] at this
  have o:t*2^s*4294967296^(m-1)=4294967296^(m-1)*t*2^s:=by grind
  have p:4294967296^(m-1)*t*2^s<=y*2^s:=Nat.mul_le_mul_right _ (by omega)
  omega
 refine ⟨by omega,?_,k⟩
 have l:y*2^s<4294967296^m:=by
  have n:y<4294967296^(m-1)*(t+1):=by rw [Nat.mul_add,Nat.mul_one];omega
  have q:4294967296^(m-1)*(t+1)*2^s<=4294967296^(m-1)*2^bg t*2^s:=Nat.mul_le_mul_right _ (Nat.mul_le_mul_left _ f)
  have r:4294967296^(m-1)*2^bg t*2^s=4294967296^m:=by
   rw [Nat.mul_assoc,i,←Nat.pow_succ,Nat.succ_eq_add_one,Nat.sub_add_cancel h0]
  have u:y*2^s<4294967296^(m-1)*(t+1)*2^s:=Nat.mul_lt_mul_of_pos_right n (Nat.two_pow_pos s)
  omega
 have b1:=aC.2 l
 have b2:m-1<(ae (y*2^s)).length:=by
  rw [oH]
  have:1*4294967296^(m-1)<=2147483648*4294967296^(m-1):=Nat.mul_le_mul_right _ (by omega)
  omega
 omega
theorem Oc {us:List Nat}{k:Nat}(h:k+2<us.length)(hz:val (us.drop (k+3))=0) :
  val us=((us[k+2]*4294967296+us[k+1])*4294967296+us[k])*4294967296^k+val (us.take k):=by
 have a:=e_ us k (by omega)
 rw [List.drop_eq_getElem_cons (i:=k+1) (by omega),List.drop_eq_getElem_cons (i:=k+1+1) (by omega),aR,aR] at a
 rw [show k+1+1+1=k+3 from rfl,hz] at a
 rw [a]
 grind
theorem Ob {us:List Nat}{k:Nat}(h:us.length=k+2):val us=(us[k+1]*4294967296+us[k])*4294967296^k+val (us.take k):=by
 have a:=e_ us k (by omega)
 rw [List.drop_eq_getElem_cons (i:=k+1) (by omega),aR,List.drop_of_length_le (by omega),di] at a
 rw [a]
 grind
theorem aS (us:List Nat)(k:Nat)(h:k<=us.length):val us=val (us.take k)+4294967296^k*val (us.drop k):=by
 conv=>lhs;rw [←List.take_append_drop k us]
 rw [cA,List.length_take,Nat.min_eq_left h]
theorem fx {us:List Nat}{k:Nat}(h:val us<4294967296^k)(hk:k<=us.length):val (us.drop k)=0:=by
 have:=aS us k hk
 rcases Nat.eq_zero_or_pos (val (us.drop k)) with e|e
 ·exact e
 ·have:4294967296^k*1<=4294967296^k*val (us.drop k):=Nat.mul_le_mul_left _ e
  omega
theorem _root_.Go.Eng.RD.Mb {V:View}{p:OA}{n c:Nat}{ds:List Nat}(h:RD V p n c ds){i:Int}{K:Int->Prop}(j:Nat)(hj:i=j){d:Nat}(hn:ds[j]?=some d)
  (hK:K (d:Int)):(p.isSome=true)/\(0<=i/\i<(n:Int))/\∃x:Int,(∃a,addrAdd p (i.toNat*1)=some a/\V.at a (.int .u32 x))/\K x:=by
 obtain ⟨b,e⟩:=List.getElem?_eq_some_iff.1 hn
 exact h.rd j hj b (by rw [e];exact hK)
theorem gI {us:List Nat}{rest:List Value}{k d:Nat}(h:us[k]?=some d):(aA us++rest)[0+k*1]?=some (.int .u32 (d:Int)):=by
 obtain ⟨a,b⟩:=List.getElem?_eq_some_iff.1 h
 rw [GV a,b]
structure xn (us vs:List Nat) (j G i b c:Nat) (fs:List Nat):Prop where
 b1:b<=1
 c1:c<4294967296
 hi:i<=vs.length
 len:fs.length=us.length
 cI:bl fs
 dr:fs.drop (j+i)=us.drop (j+i)
 tk:fs.take j=us.take j
 eq:val (fs.take (j+i))+4294967296^j*(G*val (vs.take i))=val (us.take (j+i))+4294967296^j*4294967296^i*(c+b)
theorem xn.read {us vs:List Nat}{j G i b c:Nat}{fs:List Nat}(h:xn us vs j G i b c fs)(hj:j+i<us.length):∃u,fs[j+i]?=some u/\us[j+i]?=some u:=by
 have:=congrArg (fun l=>l[0]?) h.dr
 simp only [List.getElem?_drop,Nat.add_zero] at this
 exact ⟨us[j+i],by rw [this,List.getElem?_eq_getElem hj],List.getElem?_eq_getElem hj⟩
theorem xn.step {us vs:List Nat}{j G i b c:Nat}{fs:List Nat}(h:xn us vs j G i b c fs)(hG:G<4294967296)(hdv:bl vs)(CV:bl us)(hi:i<vs.length)(hj:j+i<us.length) :
  ∃u d ob od cn cb:Nat,vs[i]?=some d/\fs[j+i]?=some u/\u64.wrap ((c:Int)+u64.wrap ((G:Int)*u64.wrap (d:Int)))=(cn:Int)/\(cn:Int).fdiv (2^32)=(cb:Int) /\
   (u64.wrap (u64.wrap (u64.wrap (u:Int)-aV .and .u64 (cn:Int) 4294967295)-(b:Int))).fdiv (2^63)=(ob:Int) /\
   u32.wrap (u64.wrap (u64.wrap (u64.wrap (u:Int)-aV .and .u64 (cn:Int) 4294967295)-(b:Int)))=(od:Int)/\od<4294967296 /\
   xn us vs j G (i+1) ob cb (fs.set (j+i) od):=by
 obtain ⟨u,g,a⟩:=h.read hj
 obtain ⟨k,l,-,m,n,z,o,p⟩:=h
 have A:=hdv.get (i:=i) hi
 have B:u<4294967296:=CV u (List.mem_of_getElem? a)
 have C:G*vs[i]<=4294967295*4294967295:=Nat.mul_le_mul (by omega) (by omega)
 refine ⟨u,vs[i],?_⟩
 have q:u64.wrap ((c:Int)+u64.wrap ((G:Int)*u64.wrap ((vs[i]:Nat):Int)))=((c+G*vs[i]:Nat):Int):=by
  rw [aJ (x:=((vs[i]:Nat):Int)) (by omega),←Int.natCast_mul]
  generalize G*vs[i]=gd at *
  rw [aJ (x:=((gd:Nat):Int)) (by omega),aJ (by omega)];omega
 have r:=vg (x:=((u:Int)-((c+G*vs[i])%4294967296:Nat)-b)%18446744073709551616) p l k B rfl
 have hand:aV .and .u64 ((c+G*vs[i]:Nat):Int) 4294967295=(((c+G*vs[i])%4294967296:Nat):Int):=BG _ (by omega)
 have e:u64.wrap (u64.wrap (u64.wrap (u:Int)-(((c+G*vs[i])%4294967296:Nat):Int))-(b:Int))=((u:Int)-((c+G*vs[i])%4294967296:Nat)-b)%18446744073709551616:=by
  rw [aJ (x:=(u:Int)) (by omega),n_,n_]
  omega
 have s:(c+G*vs[i]) / 4294967296<4294967296:=by
  generalize G*vs[i]=gd at *;omega
 generalize ((u:Int)-((c+G*vs[i])%4294967296:Nat)-b)%18446744073709551616=xx at *
 obtain ⟨E,F,H,t⟩:=r
 obtain ⟨ob,w⟩:∃ob:Nat,xx / 9223372036854775808=ob:=⟨(xx / 9223372036854775808).toNat,by omega⟩
 obtain ⟨od,f⟩:∃od:Nat,xx%4294967296=od:=⟨(xx%4294967296).toNat,by omega⟩
 rw [w,f] at t
 simp only [Int.toNat_natCast] at t
 have y:od<4294967296:=by omega
 have D:ob<=1:=by omega
 refine ⟨ob,od,c+G*vs[i],(c+G*vs[i]) / 4294967296,List.getElem?_eq_getElem hi,g,q,?_,?_,?_,y,D,s,hi,by simpa using m,n.set _ _ y,?_,?_,?_⟩
 ·rw [eJ]
 ·rw [hand,e,Fj,w]
 ·rw [hand,e,fP,f]
 ·rw [List.drop_set_of_lt (by omega)]
  have:=congrArg (List.drop 1) z
  simpa [List.drop_drop,Nat.add_comm,Nat.add_assoc,Nat.add_left_comm] using this
 ·rw [List.take_set,List.set_eq_of_length_le (by simp;omega)];exact o
 ·have v:us[j+i]=u:=by rw [List.getElem?_eq_getElem hj] at a;exact Option.some.inj a
  rw [show j+(i+1)=j+i+1 from by omega,aF _ _ _ (by omega),ao us (j+i) (by omega),ao vs i hi,Nat.pow_succ,Nat.pow_add,v]
  exact t
theorem D4 {ks us:List Nat}{j t a:Nat}(h1:ks.take j=us.take j)(hk:j<=ks.length)(hu:j<=us.length)(h:val ks+4294967296^j*a=val us+4294967296^j*t):val (ks.drop j)+a=val (us.drop j)+t:=by
 have b:=aS ks j hk
 have c:=aS us j hu
 rw [h1] at b
 have:4294967296^j*(val (ks.drop j)+a)=4294967296^j*(val (us.drop j)+t):=by rw [Nat.mul_add,Nat.mul_add];omega
 exact Nat.eq_of_mul_eq_mul_left (Nat.pow_pos (by omega)) this
theorem xn.fin {us vs:List Nat}{j G b c:Nat}{fs:List Nat}(h:xn us vs j G vs.length b c fs)(CV:bl us)(hj:j+vs.length<us.length)(hz:val (us.drop (j+vs.length+1))=0) :
  ∃u ob od:Nat,fs[j+vs.length]?=some u /\
   (u64.wrap (u64.wrap (u64.wrap (u:Int)-(c:Int))-(b:Int))).fdiv (2^63)=(ob:Int) /\
   u32.wrap (u64.wrap (u64.wrap (u64.wrap (u:Int)-(c:Int))-(b:Int)))=(od:Int)/\od<4294967296/\ob<=1 /\
   bl (fs.set (j+vs.length) od)/\(fs.set (j+vs.length) od).length=us.length/\(fs.set (j+vs.length) od).take j=us.take j/\val ((fs.set (j+vs.length) od).drop (j+vs.length+1))=0 /\
   val ((fs.set (j+vs.length) od).drop j)+G*val vs=val (us.drop j)+4294967296^(vs.length+1)*ob:=by
 obtain ⟨u,q,f⟩:=h.read hj
 obtain ⟨r,i,-,s,t,D,v,l⟩:=h
 have E:u<4294967296:=CV u (List.mem_of_getElem? f)
 have w:us[j+vs.length]=u:=by rw [List.getElem?_eq_getElem hj] at f;exact Option.some.inj f
 rw [List.take_length] at l
 have k:=vg (g:=G) (d:=0) (Y:=val vs) (x:=((u:Int)-((c+G*0)%4294967296:Nat)-b)%18446744073709551616) l i r E rfl
 simp only [Nat.mul_zero,Nat.add_zero] at k
 rw [Nat.mod_eq_of_lt i,Nat.div_eq_of_lt i,Nat.zero_add] at k
 have m:u64.wrap (u64.wrap (u64.wrap (u:Int)-(c:Int))-(b:Int))=((u:Int)-(c:Int)-b)%18446744073709551616:=by
  rw [aJ (x:=(u:Int)) (by omega),n_,n_]
  omega
 generalize ((u:Int)-(c:Int)-b)%18446744073709551616=xx at *
 obtain ⟨K,L,M,y⟩:=k
 obtain ⟨ob,B⟩:∃ob:Nat,xx / 9223372036854775808=ob:=⟨(xx / 9223372036854775808).toNat,by omega⟩
 obtain ⟨od,n⟩:∃od:Nat,xx%4294967296=od:=⟨(xx%4294967296).toNat,by omega⟩
 rw [B,n] at y
 simp only [Int.toNat_natCast] at y
 have C:od<4294967296:=by omega
 have F:ob<=1:=by omega
 obtain ⟨e,a⟩:∃e,e=fs.set (j+vs.length) od:=⟨_,rfl⟩
 refine ⟨u,ob,od,q,by rw [m,Fj,B],by rw [m,fP,n],C,F,?_⟩
 rw [←a]
 have z:e.length=us.length:=by rw [a];simpa using s
 have A:bl e:=by rw [a];exact t.set _ _ C
 have o:e.take j=us.take j:=by rw [a,List.take_set,List.set_eq_of_length_le (by simp;omega)];exact v
 have p:e.drop (j+vs.length+1)=us.drop (j+vs.length+1):=by
  rw [a,List.drop_set_of_lt (by omega)]
  have:=congrArg (List.drop 1) D
  simpa [List.drop_drop,Nat.add_comm,Nat.add_assoc,Nat.add_left_comm] using this
 refine ⟨A,z,o,by rw [p];exact hz,D4 o (by omega) (by omega) ?_⟩
 have H:=aS e (j+vs.length+1) (by omega)
 have I:=aS us (j+vs.length+1) (by omega)
 have N:val (e.take (j+vs.length+1))=val (fs.take (j+vs.length))+4294967296^j*4294967296^vs.length*od:=by rw [a,aF _ _ _ (by omega),Nat.pow_add]
 have O:val (us.take (j+vs.length+1))=val (us.take (j+vs.length))+4294967296^j*4294967296^vs.length*u:=by rw [ao us (j+vs.length) (by omega),Nat.pow_add,w]
 rw [p,hz,Nat.mul_zero,Nat.add_zero] at H
 rw [hz,Nat.mul_zero,Nat.add_zero] at I
 have J:4294967296^j*(4294967296^vs.length*4294967296)*ob=4294967296^j*(4294967296^(vs.length+1)*ob):=by rw [Nat.pow_succ];grind
 rw [J] at y
 omega
structure xk (ks vs:List Nat) (j i c:Nat) (gs:List Nat):Prop where
 c1:c<=1
 hi:i<=vs.length
 len:gs.length=ks.length
 cI:bl gs
 dr:gs.drop (j+i)=ks.drop (j+i)
 tk:gs.take j=ks.take j
 eq:val (gs.take (j+i))+4294967296^j*4294967296^i*c=val (ks.take (j+i))+4294967296^j*val (vs.take i)
theorem xk.read {ks vs:List Nat}{j i c:Nat}{gs:List Nat}(h:xk ks vs j i c gs)(hj:j+i<ks.length):∃u,gs[j+i]?=some u/\ks[j+i]?=some u:=by
 have:=congrArg (fun l=>l[0]?) h.dr
 simp only [List.getElem?_drop,Nat.add_zero] at this
 exact ⟨ks[j+i],by rw [this,List.getElem?_eq_getElem hj],List.getElem?_eq_getElem hj⟩
theorem xk.step {ks vs:List Nat}{j i c:Nat}{gs:List Nat}(h:xk ks vs j i c gs)(hdv:bl vs)(hdk:bl ks)(hi:i<vs.length)(hj:j+i<ks.length) :
  ∃u d od cn cb:Nat,vs[i]?=some d/\gs[j+i]?=some u/\u64.wrap ((c:Int)+u64.wrap (u64.wrap (u:Int)+u64.wrap (d:Int)))=(cn:Int)/\(cn:Int).fdiv (2^32)=(cb:Int) /\
   u32.wrap (cn:Int)=(od:Int)/\xk ks vs j (i+1) cb (gs.set (j+i) od):=by
 obtain ⟨u,b,a⟩:=h.read hj
 obtain ⟨o,-,e,f,p,g,k⟩:=h
 have q:=hdv.get (i:=i) hi
 have s:u<4294967296:=hdk u (List.mem_of_getElem? a)
 have l:ks[j+i]=u:=by rw [List.getElem?_eq_getElem hj] at a;exact Option.some.inj a
 obtain ⟨t5,r⟩:∃t5,t5=c+u+vs[i]:=⟨_,rfl⟩
 have m:=t_ k r
 have n:u64.wrap ((c:Int)+u64.wrap (u64.wrap (u:Int)+u64.wrap ((vs[i]:Nat):Int)))=(t5:Int):=by
  rw [aJ (x:=((vs[i]:Nat):Int)) (by omega),aJ (x:=(u:Int)) (by omega),aJ (x:=(u:Int)+_) (by omega),aJ (by omega)]
  omega
 refine ⟨u,vs[i],t5%4294967296,t5,t5 / 4294967296,List.getElem?_eq_getElem hi,b,n,by rw [eJ],by rw [fP];omega,by omega,hi,by simpa using e,f.set _ _ (by omega),?_,?_,?_⟩
 ·rw [List.drop_set_of_lt (by omega)]
  have:=congrArg (List.drop 1) p
  simpa [List.drop_drop,Nat.add_comm,Nat.add_assoc,Nat.add_left_comm] using this
 ·rw [List.take_set,List.set_eq_of_length_le (by simp;omega)];exact g
 ·rw [show j+(i+1)=j+i+1 from by omega,aF _ _ _ (by omega),ao ks (j+i) (by omega),ao vs i hi,Nat.pow_succ,Nat.pow_add,l]
  exact m
theorem xk.fin {ks vs:List Nat}{j c:Nat}{gs:List Nat}(h:xk ks vs j vs.length c gs)(hdk:bl ks)(hj:j+vs.length<ks.length)(hz:val (ks.drop (j+vs.length+1))=0) :
  ∃u od kp:Nat,gs[j+vs.length]?=some u/\u32.wrap ((u:Int)+u32.wrap (c:Int))=(od:Int)/\kp<=1 /\
   bl (gs.set (j+vs.length) od)/\(gs.set (j+vs.length) od).length=ks.length/\(gs.set (j+vs.length) od).take j=ks.take j/\val ((gs.set (j+vs.length) od).drop (j+vs.length+1))=0 /\
   val ((gs.set (j+vs.length) od).drop j)+4294967296^(vs.length+1)*kp=val (ks.drop j)+val vs:=by
 obtain ⟨u,l,b⟩:=h.read hj
 obtain ⟨v,-,m,n,w,o,f⟩:=h
 have C:u<4294967296:=hdk u (List.mem_of_getElem? b)
 have p:ks[j+vs.length]=u:=by rw [List.getElem?_eq_getElem hj] at b;exact Option.some.inj b
 rw [List.take_length] at f
 have g:=t_ (d:=0) (u:=u) (Y:=val vs) (t:=c+u) f (by omega)
 simp only [Nat.mul_zero,Nat.add_zero] at g
 have y:(c+u)%4294967296<4294967296:=by omega
 have q:(c+u) / 4294967296<=1:=by omega
 have hw:u32.wrap ((u:Int)+u32.wrap (c:Int))=(((c+u)%4294967296:Nat):Int):=by
  rw [mS (x:=(c:Int)) (by omega),fP];omega
 generalize (c+u)%4294967296=od at *
 generalize (c+u) / 4294967296=kp at *
 obtain ⟨a,e⟩:∃a,a=gs.set (j+vs.length) od:=⟨_,rfl⟩
 refine ⟨u,od,kp,l,hw,q,?_⟩
 rw [←e]
 have r:a.length=ks.length:=by rw [e];simpa using m
 have s:bl a:=by rw [e];exact n.set _ _ y
 have i:a.take j=ks.take j:=by rw [e,List.take_set,List.set_eq_of_length_le (by simp;omega)];exact o
 have k:a.drop (j+vs.length+1)=ks.drop (j+vs.length+1):=by
  rw [e,List.drop_set_of_lt (by omega)]
  have:=congrArg (List.drop 1) w
  simpa [List.drop_drop,Nat.add_comm,Nat.add_assoc,Nat.add_left_comm] using this
 refine ⟨s,r,i,by rw [k];exact hz,D4 i (by omega) (by omega) ?_⟩
 have z:=aS a (j+vs.length+1) (by omega)
 have A:=aS ks (j+vs.length+1) (by omega)
 have D:val (a.take (j+vs.length+1))=val (gs.take (j+vs.length))+4294967296^j*4294967296^vs.length*od:=by rw [e,aF _ _ _ (by omega),Nat.pow_add]
 have E:val (ks.take (j+vs.length+1))=val (ks.take (j+vs.length))+4294967296^j*4294967296^vs.length*u:=by rw [ao ks (j+vs.length) (by omega),Nat.pow_add,p]
 rw [k,hz,Nat.mul_zero,Nat.add_zero] at z
 rw [hz,Nat.mul_zero,Nat.add_zero] at A
 have B:4294967296^j*(4294967296^vs.length*4294967296)*kp=4294967296^j*(4294967296^(vs.length+1)*kp):=by rw [Nat.pow_succ];grind
 rw [B] at g
 omega
structure GK (v1 v2 v' u0 u1 u2 t' B T Y:Nat):Prop where
 hY:Y=(v1*4294967296+v2)*B+v'
 hT:T=((u0*4294967296+u1)*4294967296+u2)*B+t'
 re:v'<B
 yv:t'<B
 Oe:2147483648<=v1
 PL:v1<4294967296
 Of:v2<4294967296
 R8:u0<4294967296
 R9:u1<4294967296
 PK:u2<4294967296
 lt:T<4294967296*Y
structure GI (v1 f T Y G ρ:Nat):Prop where
 r:ρ<4294967296
 g:G<=4294967297
 eq:G*v1+ρ=f
 lt:T<(G+1)*Y
structure GF (T Y G:Nat):Prop where
 g:G<4294967296
 lt:T<(G+1)*Y
 gt:G*Y<T+Y
section
variable {v1 v2 v' u0 u1 u2 t' B T Y G ρ:Nat}
theorem GK.start (h:GK v1 v2 v' u0 u1 u2 t' B T Y):GI v1 (u0*4294967296+u1) T Y ((u0*4294967296+u1) / v1) ((u0*4294967296+u1)%v1):=by
 have c:=uJ h.hY h.hT h.re h.lt
 have d:=h.Oe
 have e:=h.PL
 have f:=h.Of
 have a:=Nat.div_add_mod (u0*4294967296+u1) v1
 have b:=Nat.mod_lt (u0*4294967296+u1) (show 0<v1 by omega)
 refine ⟨by omega,?_,by rw [Nat.mul_comm];exact a,?_⟩
 ·have:(u0*4294967296+u1) / v1<4294967298:=by
   rw [Nat.div_lt_iff_lt_mul (by omega)];omega
  omega
 ·rw [Nat.mul_comm] at a
  exact Eg h.hY h.hT h.yv h.PK a b
theorem GK.Hk (h:GK v1 v2 v' u0 u1 u2 t' B T Y)(hG:4294967296<=G):T<G*Y:=Nat.lt_of_lt_of_le h.lt (Nat.mul_le_mul_right _ hG)
theorem GK.dec (h:GK v1 v2 v' u0 u1 u2 t' B T Y)(hi:GI v1 (u0*4294967296+u1) T Y G ρ)(hd:ρ*4294967296+u2<G*v2):T<G*Y:=CR h.hY h.hT h.yv hi.eq hd
theorem GK.last (h:GK v1 v2 v' u0 u1 u2 t' B T Y)(hi:GI v1 (u0*4294967296+u1) T Y G ρ)(hG:G<4294967296)(hd:G*v2<=ρ*4294967296+u2):GF T Y G:=
 ⟨hG,hi.lt,uH h.hY h.hT h.re (by have:=h.Oe;omega) (by omega) hi.eq hd (by omega)⟩
theorem GK.down (h:GK v1 v2 v' u0 u1 u2 t' B T Y)(hi:GI v1 (u0*4294967296+u1) T Y G ρ)(h1:T<G*Y):1<=G/\(G-1)*v1+(ρ+v1)=u0*4294967296+u1/\T<(G-1+1)*Y:=by
 have a:1<=G:=by
  rcases Nat.eq_zero_or_pos G with b|b
  ·subst b;omega
  ·exact b
 have:=hi.eq
 refine ⟨a,?_,by rw [Nat.sub_add_cancel a];exact h1⟩
 have:G*v1=(G-1)*v1+v1:=by conv=>lhs;rw [←Nat.sub_add_cancel a,Nat.add_mul,Nat.one_mul]
 omega
theorem GK.Hm (h:GK v1 v2 v' u0 u1 u2 t' B T Y)(hi:GI v1 (u0*4294967296+u1) T Y G ρ)(h1:T<G*Y)(h2:4294967296<=ρ+v1):1<=G/\GF T Y (G-1):=by
 obtain ⟨a,e,b⟩:=h.down hi h1
 have d:=uJ h.hY h.hT h.re h.lt
 have i:=h.Of
 have j:=h.Oe
 have k:=hi.g
 have f:G-1<4294967296:=by
  rcases Nat.lt_or_ge (G-1) 4294967296 with c|c
  ·exact c
  ·have:=Nat.mul_le_mul_right v1 c
   omega
 refine ⟨a,f,b,uH h.hY h.hT h.re (by omega) (by omega) e ?_ (by omega)⟩
 have l:(G-1)*v2<=4294967295*4294967295:=Nat.mul_le_mul (by omega) (by omega)
 omega
theorem GK.Hn (h:GK v1 v2 v' u0 u1 u2 t' B T Y)(hi:GI v1 (u0*4294967296+u1) T Y G ρ)(h1:T<G*Y)(h2:ρ+v1<4294967296):1<=G/\GI v1 (u0*4294967296+u1) T Y (G-1) (ρ+v1):=by
 obtain ⟨a,c,b⟩:=h.down hi h1
 have d:=hi.g
 exact ⟨a,h2,by omega,c,b⟩
theorem GK.words (h:GK v1 v2 v' u0 u1 u2 t' B T Y) :
  aV .or .u64 (u64.wrap (u64.wrap (u0:Int)*2^32)) (u64.wrap (u1:Int))=((u0*4294967296+u1:Nat):Int) /\
  u64.wrap (((u0*4294967296+u1:Nat):Int).tdiv (v1:Int))=(((u0*4294967296+u1) / v1:Nat):Int) /\
  ((u0*4294967296+u1:Nat):Int).tmod (v1:Int)=(((u0*4294967296+u1)%v1:Nat):Int):=by
 have a:=h.R8
 have b:=h.R9
 have c:((2:Int)^32)=4294967296:=by decide
 refine ⟨?_,?_,?_⟩
 ·rw [c,aJ (x:=(u0:Int)) (by omega),aJ (x:=(u1:Int)) (by omega),aJ (by omega),yR _ _ a b];omega
 ·rw [Int.tdiv_eq_ediv_of_nonneg (by omega),←Int.natCast_ediv]
  have d:(u0*4294967296+u1) / v1<=u0*4294967296+u1:=Nat.div_le_self _ _
  generalize (u0*4294967296+u1) / v1=qq at *
  rw [aJ (by omega)]
 ·rw [Int.tmod_eq_emod_of_nonneg (by omega),←Int.natCast_emod]
theorem GK.I4 (h:GK v1 v2 v' u0 u1 u2 t' B T Y)(hi:GI v1 (u0*4294967296+u1) T Y G ρ) :
  u64.wrap ((G:Int)*(v2:Int))=((G*v2:Nat):Int)/\aV .or .u64 (u64.wrap ((ρ:Int)*2^32)) (u64.wrap (u2:Int))=((ρ*4294967296+u2:Nat):Int) /\
  u64.wrap ((ρ:Int)+v1)=((ρ+v1:Nat):Int)/\(1<=G->u64.wrap ((G:Int)-1)=((G-1:Nat):Int)):=by
 have a:=h.PK
 have b:=hi.r
 have c:=hi.g
 have f:=h.Of
 have d:=h.PL
 have e:((2:Int)^32)=4294967296:=by decide
 refine ⟨?_,?_,?_,?_⟩
 ·have d:G*v2<=4294967297*4294967295:=Nat.mul_le_mul c (by omega)
  rw [←Int.natCast_mul,aJ (by omega)]
 ·rw [e,aJ (x:=(ρ:Int)*4294967296) (by omega),aJ (by omega),yR _ _ b a];omega
 ·rw [aJ (by omega)];omega
 ·intro h;rw [aJ (by omega)];omega
end
end Go.Proofs.Tryz
namespace Go.Proofs.Tryz
open Go.Eng Go.Big
structure OI (X Y n n8:Nat) (j:Int) (us qs:List Nat):Prop where
 j0:-1<=j
 j1:j<(n+1-n8:Nat)
 ul:us.length=n+1
 ud:bl us
 ql:qs.length=n+1-n8
 qd:bl qs
 eq:X=val us+Y*(4294967296^(j+1).toNat*val (qs.drop (j+1).toNat))
 lt:val (us.drop (j+1).toNat)<Y
structure DK (Y n8 k v1 v2:Nat):Prop where
 M6:n8=k+2
 len:(ae Y).length=n8
 g1:(ae Y)[k+1]?=some v1
 g2:(ae Y)[k]?=some v2
 l1:2147483648<=v1
 u1:v1<4294967296
 u2:v2<4294967296
 eq:Y=(v1*4294967296+v2)*4294967296^k+val ((ae Y).take k)
 lt:val ((ae Y).take k)<4294967296^k
 top:Y<4294967296^n8
theorem DK.of {Y n8:Nat}(hl:(ae Y).length=n8)(h2:2<=n8)(ht:2147483648*4294967296^(n8-1)<=Y):∃k v1 v2,DK Y n8 k v1 v2:=by
 obtain ⟨k,e⟩:∃k,n8=k+2:=⟨n8-2,by omega⟩
 have a:=Ob (us:=ae Y) (k:=k) (by omega)
 rw [ab] at a
 have c:=dR ((aB Y).take k)
 rw [List.length_take,Nat.min_eq_left (by omega)] at c
 have f:=(aB Y).get (i:=k+1) (by omega)
 have g:=(aB Y).get (i:=k) (by omega)
 have b:2147483648<=(ae Y)[k+1]:=by
  rcases Nat.lt_or_ge (ae Y)[k+1] 2147483648 with d|d
  ·exfalso
   have h:((ae Y)[k+1]*4294967296+(ae Y)[k])+1<=2147483648*4294967296:=by omega
   have j:=Nat.mul_le_mul_right (4294967296^k) h
   rw [Nat.add_mul,Nat.one_mul] at j
   have l:2147483648*4294967296^(k+1)=2147483648*4294967296*4294967296^k:=by rw [Nat.pow_succ];grind
   rw [show n8-1=k+1 from by omega,l] at ht
   omega
  ·exact d
 exact ⟨k,_,_,e,hl,List.getElem?_eq_getElem _,List.getElem?_eq_getElem _,b,f,g,a,c,by rw [←hl,←aC];exact Nat.le_refl _⟩
theorem OI.start {x X Y n n8 s:Nat}(hX:X=x*2^s)(hx:(ae x).length=n)(hs:s<32)(M6:2<=n8)(hn:n8<=n)(hY:2147483648*4294967296^(n8-1)<=Y)(SU:(ae X).length<=n+1) :
  OI X Y n n8 (((n+1-n8:Nat):Int)-1) ((ae X++[0,0]).take (n+1)) (List.replicate (n+1-n8) 0):=by
 have h:n<=(ae X).length:=by rw [←hx,hX];exact ay (Nat.le_mul_of_pos_right _ (Nat.two_pow_pos s))
 have g:((ae X++[0,0]).take (n+1)).length=n+1:=by simp;omega
 have a:val ((ae X++[0,0]).take (n+1))=X:=by
  have b:val (ae X++[0,0])=X:=by rw [cA,ab];simp
  have c:=aS (ae X++[0,0]) (n+1) (by simp;omega)
  have d:val ((ae X++[0,0]).drop (n+1))=0:=by
   refine fx ?_ (by simp;omega)
   rw [b]
   exact aC.1 (by omega)
  rw [d,Nat.mul_zero,Nat.add_zero,b] at c
  exact c.symm
 have e:(((n+1-n8:Nat):Int)-1+1).toNat=n+1-n8:=by omega
 refine ⟨by omega,by omega,g,(bl.append.2 ⟨aB X,by simp [bl]⟩).take _,by simp,bl.rep _,?_,?_⟩
 ·rw [e,List.drop_of_length_le (by simp),di,Nat.mul_zero,Nat.mul_zero,Nat.add_zero,a]
 ·rw [e]
  have b:=aS ((ae X++[0,0]).take (n+1)) (n+1-n8) (by omega)
  rw [a] at b
  have f:X<4294967296^n*2^s:=by rw [hX];exact Nat.mul_lt_mul_of_pos_right (by rw [←hx];exact aC.1 (Nat.le_refl _)) (Nat.two_pow_pos s)
  have i:2^s<=2^31:=Nat.pow_le_pow_right (by omega) (by omega)
  have c:4294967296^n*2^s<=4294967296^(n+1-n8)*Y:=by
   have b1:4294967296^n=4294967296^(n+1-n8)*4294967296^(n8-1):=by rw [←Nat.pow_add];congr 1;omega
   rw [b1,Nat.mul_assoc]
   refine Nat.mul_le_mul_left _ ?_
   have b2:2^s*4294967296^(n8-1)<=2147483648*4294967296^(n8-1):=Nat.mul_le_mul_right _ (by omega)
   rw [Nat.mul_comm]
   omega
  have d:4294967296^(n+1-n8)*val (((ae X++[0,0]).take (n+1)).drop (n+1-n8))<4294967296^(n+1-n8)*Y:=by omega
  exact Nat.lt_of_mul_lt_mul_left d
theorem OI.body {X Y n n8 k v1 v2 j:Nat}{us qs:List Nat}(h:OI X Y n n8 (j:Int) us qs)(hd:DK Y n8 k v1 v2)(hjn:j+n8<=n) :
  val (us.drop (j+n8+1))=0/\∃u0 u1 u2 t',us[j+n8]?=some u0/\us[j+n8-1]?=some u1/\us[j+n8-2]?=some u2/\GK v1 v2 (val ((ae Y).take k)) u0 u1 u2 t' (4294967296^k) (val (us.drop j)) Y:=by
 obtain ⟨-,-,l,a,m,o,e,f⟩:=h
 have b:((j:Int)+1).toNat=j+1:=by omega
 rw [b] at e f
 have p:=hd.M6
 have q:=hd.top
 have g:val (us.drop j)=us[j]+4294967296*val (us.drop (j+1)):=by rw [List.drop_eq_getElem_cons (by omega),aR]
 have r:=a.get (i:=j) (by omega)
 have c:val (us.drop (j+n8+1))=0:=by
  have:=fx (us:=us.drop (j+1)) (k:=n8) (by omega) (by simp;omega)
  rw [List.drop_drop] at this
  rw [show j+n8+1=j+1+n8 from by omega];exact this
 have d:=dR ((a.drop j).take k)
 rw [List.length_take,List.length_drop,Nat.min_eq_left (by omega)] at d
 refine ⟨c,us[j+n8],us[j+n8-1],us[j+n8-2],val ((us.drop j).take k),List.getElem?_eq_getElem _,List.getElem?_eq_getElem _,List.getElem?_eq_getElem _,
  hd.eq,?_,hd.lt,d,hd.l1,hd.u1,hd.u2,a.get _,a.get _,a.get _,by omega⟩
 have:=Oc (us:=us.drop j) (k:=k) (by simp;omega) (by rw [List.drop_drop,show j+(k+3)=j+n8+1 from by omega];exact c)
 simp only [List.getElem_drop] at this
 rw [this]
 congr<;>omega
theorem OI.next {X Y n n8 j H:Nat}{us qs hs:List Nat}(h:OI X Y n n8 (j:Int) us qs)(hjn:j+n8<=n)(h1:hs.length=us.length)(Q1:bl hs)(h2:hs.take j=us.take j)(h3:val (hs.drop j)+H*Y=val (us.drop j))(h4:val (hs.drop j)<Y)(hH:H<4294967296) :
  OI X Y n n8 ((j:Int)-1) hs (qs.set j H):=by
 obtain ⟨-,f,k,m,g,i,b,o⟩:=h
 have a:((j:Int)+1).toNat=j+1:=by omega
 have c:((j:Int)-1+1).toNat=j:=by omega
 rw [a] at b
 refine ⟨by omega,by omega,by omega,Q1,by simpa using g,i.set _ _ hH,?_,by rw [c];exact h4⟩
 have d:=aS hs j (by omega)
 have e:=aS us j (by omega)
 rw [h2] at d
 rw [←h3] at e
 rw [c,List.drop_eq_getElem_cons (l:=qs.set j H) (by simp;omega),List.getElem_set_self,List.drop_set_of_lt (by omega),aR,b,d,e,Nat.pow_succ]
 grind
theorem OI.done {x y X Y n n8 s:Nat}{us qs:List Nat}(h:OI X Y n n8 (-1) us qs)(hX:X=x*2^s)(hY:Y=y*2^s)(hn:n8<=n+1)(hYl:Y<4294967296^n8):val qs=x / y/\val (us.take n8) / 2^s=x%y:=by
 obtain ⟨-,-,f,g,i,j,a,b⟩:=h
 have a:X=val us+Y*val qs:=by simpa using a
 have b:val us<Y:=by simpa using b
 have e:0<Y:=by omega
 have c:=fx (us:=us) (k:=n8) (by omega) (by omega)
 have d:val (us.take n8)=val us:=by
  have:=aS us n8 (by omega)
  rw [c,Nat.mul_zero,Nat.add_zero] at this
  exact this.symm
 constructor
 ·rw [←Nat.mul_div_mul_right x y (Nat.two_pow_pos s),←hX,←hY,a,Nat.add_mul_div_left _ _ e,Nat.div_eq_of_lt b,Nat.zero_add]
 ·have:x*2^s%(y*2^s)=val us:=by
   rw [←hX,←hY,a,Nat.add_mul_mod_self_left,Nat.mod_eq_of_lt b]
  rw [Nat.mul_mod_mul_right] at this
  rw [d,←this,Nat.mul_div_cancel _ (Nat.two_pow_pos s)]
set_option maxHeartbeats 8000000 in
theorem Ak {V:View}{p q:OA}{n c m e:Nat}{x y:Nat}(ha:RN V p n c x)(hb:RN V q m e y)(hn:n<=1099511627776)(hm2:2<=m)(hle:y<=x) :
  Acts prog 225 #[.slice p n c,.slice q m e] V fun r V'=>∃p1 n1 c1 p2 n2 c2,r=.tuple #[.slice p1 n1 c1,.slice p2 n2 c2]/\RN V' p1 n1 c1 (x / y)/\RN V' p2 n2 c2 (x%y):=by
 have l:=ha.len
 have a0:=hb.len
 have b6:m<=n:=by rw [l,a0];exact ay hle
 refine zI p n c q m e V _ ?_
 simp (disch:=omega) only [i64w]
 refine hb.rd (m-1) (by omega) (by omega) fun V1 l1=>(eR _ ((aB y).get (by omega))).mono ?_
 rintro r V2 l2 rfl
 refine ⟨_,rfl,?_⟩
 obtain ⟨t,E⟩:∃t,t=(ae y)[m-1]'(by omega):=⟨_,rfl⟩
 rw [←E]
 have b7:bg t<=32:=gR.2 (by rw [E];exact (aB y).get _)
 obtain ⟨s,hs⟩:∃s,s=32-bg t:=⟨_,rfl⟩
 have es:(32-(bg t:Int))=(s:Int):=by omega
 obtain ⟨Gh,o,Nc⟩:=zf a0.symm (by omega) E hs
 rw [es,aJ (by omega)]
 clear es b7
 intro V3 l3
 refine (uv (ha.le (l1.trans (l2.trans l3))) (by omega) s (by omega)).mono ?_
 rintro r V4 l4 ⟨p4,n4,c4,rfl,h4,F⟩
 rw [ab] at h4 F
 have b8:x≠0:=by
  intro w;subst w
  rw [uz] at l
  simp at l;omega
 have F:c4=n+1:=by
  rcases F with w|w
  ·exact absurd w b8
  ·rw [w,←l,Nat.div_eq_of_lt Gh]
 have a3:=h4.len
 have a4:x*2^s<4294967296^n*2^s:=Nat.mul_lt_mul_of_pos_right (by rw [l];exact aC.1 (Nat.le_refl _)) (Nat.two_pow_pos s)
 have Pb:2^s<=2^31:=Nat.pow_le_pow_right (by omega) (by omega)
 have Rb:n<=n4/\n4<=n+1:=by
  constructor
  ·rw [a3,l];exact ay (Nat.le_mul_of_pos_right _ (Nat.two_pow_pos s))
  ·rw [a3,aC,Nat.pow_succ]
   have:4294967296^n*2^s<=4294967296^n*4294967296:=Nat.mul_le_mul_left _ (by omega)
   omega
 refine ⟨_,_,_,rfl,aA (ae (x*2^s)),h4.sl,by simp;omega,h4.cap,h4.C2,by omega,by omega,rfl,by simp [Value.oneCell'],?_⟩
 intro sp c7 QY QZ
 refine ⟨⟨by omega,by omega⟩,fun V5 l5=>(uv (hb.le (l1.trans (l2.trans (l3.trans (l4.trans l5))))) (by omega) s (by omega)).mono ?_⟩
 rintro r V6 l6 ⟨p8,f,c8,rfl,Z,-⟩
 rw [ab] at Z
 have Pr:=Z.len
 rw [o] at Pr
 subst Pr
 refine ⟨_,_,_,rfl,?_⟩
 obtain ⟨k,v1,v2,I⟩:=DK.of o hm2 Nc
 have hk:=I.M6
 have d6:=I.l1
 have Rk:=I.u1
 have Rl:=I.u2
 have QT:=OI.start (Y:=y*2^s) rfl l.symm Gh hm2 b6 Nc (by omega)
 have w6:i64.wrap ((f:Int)-1)=(f:Int)-1:=i64w (by omega)
 have w7:i64.wrap ((f:Int)-2)=(f:Int)-2:=i64w (by omega)
 simp only [w6,w7]
 refine Z.Mb (k+1) (by omega) I.g1 (Z.Mb k (by omega) I.g2 ?_)
 have b9:((n:Int)+1).toNat=n+1:=by omega
 have c0:(((n+1:Nat):Int)-(f:Int)).toNat=n+1-f:=by omega
 have w1:i64.wrap ((n:Int)+1)=(n:Int)+1:=i64w (by omega)
 have w2:u64.wrap (v1:Int)=v1:=aJ (by omega)
 have w3:u64.wrap (v2:Int)=v2:=aJ (by omega)
 have w4:i64.wrap (((n+1:Nat):Int)-(f:Int))=((n+1:Nat):Int)-(f:Int):=i64w (by omega)
 have w5:i64.wrap (((n+1-f:Nat):Int)-1)=((n+1-f:Nat):Int)-1:=i64w (by omega)
 simp only [b9,w2,w3,w4,c0,w5,bU]
 obtain ⟨B,a5⟩:∃B,B=aA ((ae (x*2^s)++[0,0]).drop (n+1))++sp:=⟨_,rfl⟩
 have N:aA (ae (x*2^s))++([.int .u32 0,.int .u32 0]:List Value)++sp=aA ((ae (x*2^s)++[0,0]).take (n+1))++B:=by
  rw [a5,←List.append_assoc,←oY,List.take_append_drop,oY];rfl
 rw [N]
 clear a5 N Nc a4 Pb F hs E
 generalize hX:x*2^s=X at *
 generalize hY:y*2^s=Y at *
 refine ⟨by omega,by omega,by omega,fun z V'=>∃us D:List Nat,z.2.1=aA us++B/\z.2.2=aA D/\OI X Y n f z.1 us D,fun z=>(z.1+1).toNat,
  ⟨(((n+1-f:Nat):Int)-1,aA ((ae X++[0,0]).take (n+1))++B,aA (List.replicate (n+1-f) 0)),?_,_,_,rfl,rfl,QT⟩,?_⟩
 ·(try dsimp only);and_intros<;>first|exact True.intro|rfl
 rintro ⟨j,row,RZ⟩ V7 l7 ⟨us,D,rfl,rfl,A⟩
 dsimp only at A ⊢
 have d7:=A.j0
 have d8:=A.j1
 have Kj:=A.ul
 have Ig:=A.ql
 refine ⟨by trivial,fun K=>?_,fun K=>?_⟩
 ·have K:0<=j:=by simpa using K
  obtain ⟨j,rfl⟩:=Int.eq_ofNat_of_zero_le K
  have Q:j+f<=n:=by omega
  obtain ⟨hz,u0,u1,u2,t',a6,a7,a8,C⟩:=A.body I Q
  obtain ⟨eb,O1,O2⟩:=C.words
  have w8:i64.wrap ((j:Int)+f)=((j+f:Nat):Int):=by rw [i64w (by omega)];omega
  have w9:i64.wrap (((j+f:Nat):Int)-1)=((j+f-1:Nat):Int):=by rw [i64w (by omega)];omega
  have Oh:i64.wrap (((j+f:Nat):Int)-2)=((j+f-2:Nat):Int):=by rw [i64w (by omega)];omega
  have Q5:i64.wrap ((j:Int)-1)=(j:Int)-1:=i64w (by omega)
  simp only [w8,w9,Oh,Q5,Int.toNat_natCast]
  refine ⟨⟨by omega,by omega⟩,_,gI a6,by omega,⟨by omega,by omega⟩,_,gI a7,by omega,by omega,?_⟩
  rw [eb,O1,O2]
  clear eb O1 O2
  refine ⟨fun g V'=>∃G:Nat,g=(G:Int)/\GF (val (us.drop j)) Y G,
   ⟨fun z V'=>∃G ρ:Nat,z=((G:Int),(ρ:Int))/\GI v1 (u0*4294967296+u1) (val (us.drop j)) Y G ρ,fun z=>z.1.toNat,
    ⟨((((u0*4294967296+u1) / v1:Nat):Int),(((u0*4294967296+u1)%v1:Nat):Int)),by (try dsimp only);and_intros<;>first|exact True.intro|rfl,_,_,rfl,C.start⟩,?_⟩,?_⟩
  ·rintro _ V8 l8 ⟨G,ρ,rfl,O⟩
   obtain ⟨Ej,R,R_,Mh⟩:=C.I4 O
   dsimp only
   have t1:∀a:Nat,((((a / 2^32:Nat):Int) != 0)=true↔4294967296<=a)/\((((a / 2^32:Nat):Int) != 0)=false↔a<4294967296):=by
    intro a
    constructor
    ·rw [bne_iff_ne];omega
    ·rw [bne_eq_false_iff_eq];omega
   simp only [R_,eJ,(t1 _).1,(t1 _).2]
   refine ⟨by trivial,by omega,fun h=>⟨by omega,fun S=>?_,fun S=>?_⟩,fun h=>⟨by omega,⟨by omega,by omega⟩,_,gI a8,fun E=>⟨by omega,fun S=>?_,fun S=>?_⟩,fun E=>?_⟩⟩
   ·obtain ⟨g1,g2⟩:=C.Hm O (C.Hk h) S
    exact ⟨((G-1:Nat):Int),by rw [Mh g1];(try dsimp only);and_intros<;>first|exact True.intro|rfl,G-1,rfl,g2⟩
   ·obtain ⟨g1,g2⟩:=C.Hn O (C.Hk h) S
    exact ⟨(((G-1:Nat):Int),((ρ+v1:Nat):Int)),by (try dsimp only);omega,by rw [Mh g1];(try dsimp only);and_intros<;>first|exact True.intro|rfl,G-1,ρ+v1,rfl,g2⟩
   ·have h1:=C.dec O (by rw [Ej,R,decide_eq_true_eq] at E;omega)
    obtain ⟨g1,g2⟩:=C.Hm O h1 S
    exact ⟨((G-1:Nat):Int),by rw [Mh g1];(try dsimp only);and_intros<;>first|exact True.intro|rfl,G-1,rfl,g2⟩
   ·have h1:=C.dec O (by rw [Ej,R,decide_eq_true_eq] at E;omega)
    obtain ⟨g1,g2⟩:=C.Hn O h1 S
    exact ⟨(((G-1:Nat):Int),((ρ+v1:Nat):Int)),by (try dsimp only);omega,by rw [Mh g1];(try dsimp only);and_intros<;>first|exact True.intro|rfl,G-1,ρ+v1,rfl,g2⟩
   ·have h1:G*v2<=ρ*4294967296+u2:=by rw [Ej,R,decide_eq_false_iff_not] at E;omega
    exact ⟨(G:Int),by (try dsimp only);and_intros<;>first|exact True.intro|rfl,G,rfl,C.last O h h1⟩
  ·rintro _ V9 l9 ⟨G,rfl,T⟩
   have Jf:=T.g
   clear C a6 a7 a8
   have o:=I.len
   have a9:=ab Y
   refine ⟨by trivial,fun z V'=>∃(b c i:Nat)(fs:List Nat),z=((b:Int),(c:Int),(i:Int),aA fs++B)/\xn us (ae Y) j G i b c fs,fun z=>f-z.2.2.1.toNat,
     ⟨(0,0,0,aA us++B),by (try dsimp only);and_intros<;>first|exact True.intro|rfl,0,0,0,us,rfl,by omega,by omega,by omega,rfl,A.ud,rfl,rfl,by simp⟩,?_⟩
   rintro _ c3 L ⟨b,c,i,fs,rfl,hS⟩
   dsimp only
   simp only [Int.toNat_natCast]
   have hi:=hS.hi
   have d9:=hS.len
   refine ⟨by trivial,fun h=>?_,fun h=>?_⟩
   ·have h:i<f:=by simpa using h
    obtain ⟨u,d,ob,U,cn,cb,q1,q2,q3,q4,q5,P,q7,c5⟩:=hS.step Jf (aB Y) A.ud (by omega) (by omega)
    refine (Z.le (l7.trans (l9.trans L))).Mb i rfl q1 ?_
    have Sa:i64.wrap ((j:Int)+i)=((j+i:Nat):Int):=by rw [i64w (by omega)];omega
    have Sb:i64.wrap ((i:Int)+1)=((i+1:Nat):Int):=by rw [i64w (by omega)];omega
    rw [q3,Sa,Sb,Int.toNat_natCast]
    refine ⟨⟨by omega,by omega⟩,_,gI q2,⟨by omega,by omega⟩,by simp;omega,by omega,by omega,?_⟩
    rw [q4,q5,P]
    refine ⟨((ob:Int),(cb:Int),((i+1:Nat):Int),aA (fs.set (j+i) U)++B),by (try dsimp only);omega,?_,_,_,_,_,rfl,c5⟩
    (try dsimp only);and_intros<;>first|exact True.intro|rfl|exact qe (by omega)
   ·have h:i=(ae Y).length:=by simp at h;omega
    subst h
    obtain ⟨u,ob,U,q1,q2,q3,q4,q5,P,q7,q8,q9,K7⟩:=hS.fin A.ud (by omega) (by rw [o];exact hz)
    rw [o] at q1 P q7 q8 q9 K7
    rw [a9] at K7
    refine ⟨⟨by omega,by omega⟩,_,gI q1,⟨by omega,by omega⟩,by simp;omega,⟨by omega,by omega⟩,by simp;omega,by omega,?_⟩
    rw [q2,q3,qe (by omega),mS (x:=(G:Int)) (by omega)]
    generalize fs.set (j+f) U=ks at *
    have Kd:∀H:Nat,(aA D).set (0+j*1) (.int .u32 (H:Int))=aA (D.set j H):=by intro H;rw [Nat.zero_add,Nat.mul_one,aX]
    rw [Kd]
    refine ⟨fun W=>?_,fun W=>?_⟩
    ·have W:ob=0:=by simpa using W
     rw [W,Nat.mul_zero,Nat.add_zero] at K7
     have b0:=T.lt
     rw [Nat.add_mul,Nat.one_mul] at b0
     refine ⟨((j:Int)-1,aA ks++B,aA (D.set j G)),by (try dsimp only);omega,by (try dsimp only);and_intros<;>first|exact True.intro|rfl,ks,D.set j G,rfl,rfl,?_⟩
     exact A.next Q q7 P q8 K7 (by omega) Jf
    ·have W:ob=1:=by
      have:ob≠0:=by simpa using W
      omega
     rw [W,Nat.mul_one] at K7
     have J7:∀ls:List Nat,ls.length=n+1->bl ls->val (ls.drop (j+f+1))=0->val (ls.drop j)<4294967296^(f+1):=by
      intro ls h1 h2 K
      have a1:=aS (ls.drop j) (f+1) (by simp;omega)
      rw [List.drop_drop,show j+(f+1)=j+f+1 from by omega,K,Nat.mul_zero,Nat.add_zero] at a1
      have a2:=dR ((h2.drop j).take (f+1))
      rw [List.length_take,List.length_drop,Nat.min_eq_left (by omega)] at a2
      omega
     have SX:=J7 ks (by omega) P q9
     have c6:1<=G:=by
      rcases Nat.eq_zero_or_pos G with w|w
      ·subst w;omega
      ·exact w
     have SQ:G*Y=(G-1)*Y+Y:=by conv=>lhs;rw [←Nat.sub_add_cancel c6,Nat.add_mul,Nat.one_mul]
     have SR:=T.gt
     have Nf:u32.wrap ((G:Int)-1)=((G-1:Nat):Int):=by rw [mS (by omega)];omega
     refine ⟨⟨by omega,by omega⟩,(G:Int),by rw [Nat.zero_add,Nat.mul_one,eM (by simp;omega),List.getElem_set_self],⟨by omega,by omega⟩,by simp;omega,?_⟩
     have Ih:(aA (D.set j G)).set (0+j*1) (.int .u32 ((G-1:Nat):Int))=aA (D.set j (G-1)):=by rw [Nat.zero_add,Nat.mul_one,aX,List.set_set]
     rw [Nf,Ih]
     refine ⟨fun z V'=>∃(c' i2:Nat)(gs:List Nat),z=((c':Int),(i2:Int),aA gs++B)/\xk ks (ae Y) j i2 c' gs,fun z=>f-z.2.1.toNat,
      ⟨(0,0,aA ks++B),by (try dsimp only);and_intros<;>first|exact True.intro|rfl,0,0,ks,rfl,by omega,by omega,rfl,P,rfl,rfl,by simp⟩,?_⟩
     rintro _ c9 M ⟨c',i2,gs,rfl,hA⟩
     dsimp only
     simp only [Int.toNat_natCast]
     have e1:=hA.hi
     have e2:=hA.len
     refine ⟨by trivial,fun h=>?_,fun h=>?_⟩
     ·have h:i2<f:=by simpa using h
      obtain ⟨u,d,U,cn,cb,r1,r2,r3,r4,r5,d0⟩:=hA.step (aB Y) P (by omega) (by omega)
      refine (Z.le (l7.trans (l9.trans (L.trans M)))).Mb i2 rfl r1 ?_
      have Sc:i64.wrap ((j:Int)+i2)=((j+i2:Nat):Int):=by rw [i64w (by omega)];omega
      have d1:i64.wrap ((i2:Int)+1)=((i2+1:Nat):Int):=by rw [i64w (by omega)];omega
      rw [Sc,d1,Int.toNat_natCast]
      refine ⟨⟨by omega,by omega⟩,_,gI r2,⟨by omega,by omega⟩,by simp;omega,by omega,?_⟩
      rw [r3,r4,r5]
      refine ⟨((cb:Int),((i2+1:Nat):Int),aA (gs.set (j+i2) U)++B),by (try dsimp only);omega,?_,_,_,_,rfl,d0⟩
      (try dsimp only);and_intros<;>first|exact True.intro|rfl|exact qe (by omega)
     ·have h:i2=(ae Y).length:=by simp at h;omega
      subst h
      obtain ⟨u,U,kp,r1,r2,r3,r4,r5,r6,r7,r8⟩:=hA.fin P (by omega) (by rw [o];exact q9)
      rw [o] at r1 r4 r5 r6 r7 r8
      rw [a9] at r8
      refine ⟨⟨by omega,by omega⟩,_,gI r1,⟨by omega,by omega⟩,by simp;omega,?_⟩
      rw [r2,qe (by omega)]
      have SW:=J7 _ (by omega) r4 r7
      generalize gs.set (j+f) U=hs at *
      have M3:kp=1:=by
       rcases Nat.eq_zero_or_pos kp with w|w
       ·rw [w,Nat.mul_zero] at r8;omega
       ·omega
      rw [M3,Nat.mul_one] at r8
      refine ⟨((j:Int)-1,aA hs++B,aA (D.set j (G-1))),by (try dsimp only);omega,by (try dsimp only);and_intros<;>first|exact True.intro|rfl,hs,D.set j (G-1),rfl,rfl,?_⟩
      exact A.next Q (by omega) r4 (by rw [r6,q8]) (by omega) (by omega) (by omega)
 ·have K:j=-1:=by simp at K;omega
  subst K
  obtain ⟨hq,hr⟩:=A.done hX.symm hY.symm (by omega) I.top
  have Jh:=A.qd
  have CV:=A.ud
  intro V8 l8 e3 d2 d3 d4 J
  have Re:RD V8 (some ⟨d2,0,none⟩) f c7 (us.take f):=by
   refine ⟨by simp;omega,by omega,fun i v hv=>⟨_,rfl,?_⟩,CV.take f,fun w=>nomatch w⟩
   rw [add_zero']
   refine blk_at d4 ?_
   rw [vi,List.getElem?_take] at hv
   split at hv
   ·rename_i b0
    rw [List.getElem?_append_left (by simp;omega)];exact hv
   ·cases hv
  refine ⟨⟨by omega,by omega⟩,fun V9 l9=>?_⟩
  refine (aM (RD.aZ (ds:=D) d3 Jh (n:=n+1-f) (c:=n+1-f) (by omega) (Nat.le_refl _) |>.le l9) (by omega)).mono ?_
  rintro r c3 L ⟨k1,rfl,g1⟩
  refine ⟨_,_,_,rfl,fun c9 M=>?_⟩
  rw [Int.toNat_natCast]
  refine (CB (Re.le (l9.trans (L.trans M))) (by simp;omega) s (by omega)).mono ?_
  rintro r e4 d5 ⟨p2,n2,c2,rfl,g2⟩
  refine ⟨_,_,_,rfl,fun e5 b5=>⟨_,_,_,_,_,_,rfl,?_,?_⟩⟩
  ·rw [aI Jh] at g1
   unfold RN
   rw [←hq];exact g1.le (M.trans (d5.trans b5))
  ·rw [hr] at g2
   exact g2.le b5
theorem jh {V:View}{p q:OA}{n c m e:Nat}{xa xb:List Nat}(ha:RD V p n c xa)(hb:RD V q m e xb)(hm:xa.length<=1099511627776)(hn:xb.length<=1099511627776)(h0:val xb≠0) :
  Acts prog 184 #[.slice p n c,.slice q m e] V fun r V'=>∃p1 n1 c1 p2 n2 c2,r=.tuple #[.slice p1 n1 c1,.slice p2 n2 c2,.bool true]/\RN V' p1 n1 c1 (val xa / val xb)/\RN V' p2 n2 c2 (val xa%val xb):=by
 have la:=aU ha.cI
 have lb:=aU hb.cI
 refine tP p n c q m e V _ fun S v=>(aM (ha.le v) (by omega)).mono ?_
 rintro r V2 J ⟨n,rfl,b⟩
 rw [aI ha.cI] at b
 refine ⟨_,_,_,rfl,fun T w=>(aM (hb.le (v.trans (J.trans w))) (by omega)).mono ?_⟩
 rintro r U K ⟨m,rfl,f⟩
 rw [aI hb.cI] at f
 replace b:=b.le (w.trans K)
 generalize val xa=x at *
 generalize val xb=y at *
 have L:=b.len
 have W:=f.len
 refine ⟨_,_,_,rfl,fun z=>?_,fun z X o=>(ur (b.le o) (f.le o) (by omega) (by omega)).mono ?_⟩
 ·exfalso
  have:ae y=[]:=List.length_eq_zero_iff.1 (by simp at z;omega)
  exact h0 (aT.1 this)
 rintro r Y A rfl
 rw [ab,ab]
 replace b:=b.le (o.trans A)
 replace f:=f.le (o.trans A)
 refine ⟨_,rfl,fun d B g=>(jY (b.le g) (by omega)).mono ?_,fun d=>⟨fun j=>?_,fun j B g=>?_⟩⟩
 ·rintro r C D ⟨E,F,G,rfl,h⟩
  have d:x<y:=by simpa [eG] using d
  refine ⟨_,_,_,rfl,fun k a=>⟨_,_,_,_,_,_,rfl,?_,?_⟩⟩
  ·rw [Nat.div_eq_of_lt d];exact RD.nil
  ·rw [Nat.mod_eq_of_lt d];exact h.le a
 ·have j:m=1:=by simp at j;omega
  subst j
  refine f.R4 0 rfl (by omega) fun B g=>?_
  have H:=(aB y).get (i:=0) (by omega)
  have M:y=(ae y)[0]'(by omega):=by
   have e:=e_ (ae y) 0 (by omega)
   rw [ab,List.drop_of_length_le (by omega)] at e
   simpa using e
  rw [←M] at H ⊢
  refine (xL (b.le g) (by omega) y h0 H).mono ?_
  rintro r C D ⟨E,F,G,rfl,h⟩
  rw [ab] at h ⊢
  have I:x%y<y:=Nat.mod_lt _ (by omega)
  refine ⟨_,_,_,_,rfl,fun k a=>?_⟩
  rw [aJ (by omega)]
  refine (cM _ (by omega) (by omega)).mono ?_
  rintro r N s ⟨O,P,Q,rfl,t⟩
  exact ⟨_,_,_,rfl,fun R l=>⟨_,_,_,_,_,_,rfl,h.le (a.trans (s.trans l)),t.le l⟩⟩
 ·have d:y<=x:=by simpa [←Int.not_lt,eG] using d
  have u:2<=m:=by
   have:¬(m:Int)=1:=by simpa using j
   have:ae y≠[]:=fun e=>h0 (aT.1 e)
   have:(ae y).length≠0:=fun e=>this (List.length_eq_zero_iff.1 e)
   omega
  refine (Ak (b.le g) (f.le g) (by omega) u d).mono ?_
  rintro r C D ⟨E,F,G,O,P,Q,rfl,h,t⟩
  exact ⟨_,_,_,_,_,_,rfl,fun k a=>⟨_,_,_,_,_,_,rfl,h.le a,t.le a⟩⟩
theorem qY (x y:Nat):Nat.gcd y (x%y)=Nat.gcd x y:=by
 rw [Nat.gcd_comm x y,Nat.gcd_rec y x,Nat.gcd_comm]
theorem uu {V:View}{p q:OA}{n c m e:Nat}{xa xb:List Nat}(ha:RD V p n c xa)(hb:RD V q m e xb)(hm:xa.length<=1099511627776)(hn:xb.length<=1099511627776) :
  Acts prog 183 #[.slice p n c,.slice q m e] V fun r V'=>∃p1 n1 c1,r=.slice p1 n1 c1/\RN V' p1 n1 c1 (Nat.gcd (val xa) (val xb)):=by
 have la:=aU ha.cI
 have lb:=aU hb.cI
 refine Bk p n c q m e V _ fun V1 T=>(gw (ha.le T) hm).mono ?_
 rintro r V2 Z ⟨p1,n1,c1,rfl,f⟩
 refine ⟨_,_,_,rfl,fun V3 U=>(gw (hb.le (T.trans (Z.trans U))) hn).mono ?_⟩
 rintro r V4 l4 ⟨q1,m1,e1,rfl,i⟩
 replace f:=f.le (U.trans l4)
 refine ⟨_,_,_,rfl,fun z k V'=>∃x y:Nat,RN V' z.1 z.2.1 z.2.2.1 x/\RN V' z.2.2.2.1 z.2.2.2.2.1 z.2.2.2.2.2 y/\Nat.gcd x y=Nat.gcd (val xa) (val xb)/\k=y/\(ae x).length<=1099511627776/\(ae y).length<=1099511627776,
  ⟨(p1,n1,c1,q1,m1,e1),val xb,by (try dsimp only);and_intros<;>trivial,val xa,val xb,f,i,rfl,rfl,by omega,by omega⟩,?_⟩
 rintro ⟨p,n,c,q,m,e⟩ k V5 l5 ⟨x,y,f,i,A,hk,K,g⟩
 dsimp only at f i ⊢
 have a0:=f.len
 have W:=i.len
 rw [←A]
 have stop:m=0->y=0:=fun h=>aT.1 (List.length_eq_zero_iff.1 (by omega))
 have more:∀j:View,V5.Le j->m≠0->Acts prog 184 #[.slice p n c,.slice q m e] j fun r B=>∃p1 n1 c1 p2 n2 c2,r=.tuple #[.slice p1 n1 c1,.slice p2 n2 c2,.bool true]/\RN B p2 n2 c2 (x%y)/\x%y<y/\Nat.gcd y (x%y)=Nat.gcd (val xa) (val xb)/\(ae (x%y)).length<=1099511627776/\j.Le B:=by
  intro j l h
  have L:y≠0:=by
   intro e0;subst e0
   rw [uz] at W;simp at W;omega
  have d:x%y<y:=Nat.mod_lt _ (by omega)
  refine (jh (f.le l) (i.le l) K g (by rw [ab];exact L)).mono ?_
  rintro r B M ⟨N,O,P,H,I,J,rfl,X,v⟩
  rw [ab,ab] at v
  exact ⟨_,_,_,_,_,_,rfl,v,d,by rw [qY,A],Nat.le_trans (ay (by omega)) g,M⟩
 refine ⟨by trivial,fun Y=>⟨fun o V6 Q=>?_,fun o j l=>(more j l ?_).mono ?_⟩,fun Y=>⟨fun C=>⟨fun o V6 Q=>?_,fun o j l=>(more j l ?_).mono ?_⟩,fun C a1 D=>?_⟩⟩
 ·rw [stop (by simp at o;omega),Nat.gcd_zero_right]
  rw [stop (by simp at o;omega)] at A
  exact ⟨_,_,_,rfl,f.le Q⟩
 ·simp at o;omega
 ·rintro r B M ⟨N,O,P,H,I,J,rfl,v,d,s,t,R⟩
  exact ⟨_,_,_,_,_,_,_,rfl,(q,m,e,H,I,J),x%y,(by omega),by (try dsimp only);and_intros<;>trivial,y,x%y,i.le (l.trans R),v,s.trans A.symm,rfl,g,t⟩
 ·rw [stop (by simp at o;omega),Nat.gcd_zero_right]
  exact ⟨_,_,_,rfl,f.le Q⟩
 ·simp at o;omega
 ·rintro r B M ⟨N,O,P,H,I,J,rfl,v,d,s,t,R⟩
  exact ⟨_,_,_,_,_,_,_,rfl,(q,m,e,H,I,J),x%y,(by omega),by (try dsimp only);and_intros<;>trivial,y,x%y,i.le (l.trans R),v,s.trans A.symm,rfl,g,t⟩
 ·have a2:n<=2:=by simp at Y;omega
  have a3:m<=2:=by simp at C;omega
  have E:x<18446744073709551616:=(aC (k:=2)).1 (by omega)
  have F:y<18446744073709551616:=(aC (k:=2)).1 (by omega)
  refine (ji (f.le D) (by omega)).mono ?_
  rintro r a4 S rfl
  rw [ab,if_pos E]
  refine ⟨_,_,rfl,fun a5 eh=>(ji (i.le (D.trans (S.trans eh))) (by omega)).mono ?_⟩
  rintro r a6 en rfl
  rw [ab,if_pos F]
  refine ⟨_,_,rfl,fun z V'=>∃a b:Nat,z=((a:Int),(b:Int))/\Nat.gcd a b=Nat.gcd x y/\a<18446744073709551616/\b<18446744073709551616,fun z=>z.2.toNat,
   ⟨((x:Int),(y:Int)),by (try dsimp only);and_intros<;>trivial,x,y,rfl,rfl,E,F⟩,?_⟩
  rintro _ lV dB ⟨a,b,rfl,u,a7,G⟩
  dsimp only
  refine ⟨by trivial,fun w=>?_,fun w oB df=>?_⟩
  ·have w:b≠0:=by rw [bne_iff_ne] at w;omega
   have d:a%b<b:=Nat.mod_lt _ (by omega)
   have e4:(a:Int).tmod (b:Int)=((a%b:Nat):Int):=by rw [Int.tmod_eq_emod_of_nonneg (by omega),←Int.natCast_emod]
   rw [e4]
   exact ⟨by omega,((b:Int),((a%b:Nat):Int)),by (try dsimp only);rw [Int.toNat_natCast,Int.toNat_natCast];exact d,by (try dsimp only);and_intros<;>trivial,b,a%b,rfl,by rw [qY,u],G,Nat.lt_trans d G⟩
  ·have w:b=0:=by rw [bne_eq_false_iff_eq] at w;omega
   subst w
   rw [Nat.gcd_zero_right] at u
   refine (cM _ (by omega) (by omega)).mono ?_
   rintro r qj eQ ⟨N,O,P,rfl,X⟩
   refine ⟨_,_,_,rfl,fun vl fW=>⟨_,_,_,rfl,?_⟩⟩
   rw [←u]
   exact X.le fW
end Go.Proofs.Tryz
namespace Go.Big
def aq (b:Bool)(ds:List Nat):Int:=if b then -(val ds:Int) else val ds
end Go.Big
namespace Go.Eng
open Go.Big
def RI (V:View)(v:Value)(z:Int):Prop:=∃p n c,v=.agg #[.bool (decide (z<0)),.slice p n c]/\RD V p n c (ae z.natAbs)
theorem RI.le {V V':View}{v:Value}{z:Int}(h:RI V v z)(l:V.Le V'):RI V' v z:=by
 obtain ⟨p,n,c,e,h⟩:=h;exact ⟨p,n,c,e,h.le l⟩
theorem RI.mk {V:View}{b:Bool}{p:OA}{n c:Nat}{z:Int}(hb:b=decide (z<0))(h:RD V p n c (ae z.natAbs)):RI V (.agg #[.bool b,.slice p n c]) z:=⟨p,n,c,by rw [hb],h⟩
theorem RI.zero {V:View}:RI V (.agg #[.bool false,.slice none 0 0]) 0:=⟨_,_,_,rfl,RD.nil⟩
end Go.Eng
namespace Go.Proofs.Tryz
open Go.Eng Go.Big
theorem iE {n:Nat}:bg n=0↔n=0:=by
 unfold bg;split<;>simp_all
theorem cx (b:Bool)(ds:List Nat):(aq b ds).natAbs=val ds:=by unfold aq;cases b<;>simp
theorem yB (b:Bool)(ds:List Nat):aq b ds<0↔b=true/\val ds≠0:=by
 unfold aq;cases b
 ·simp
 ·simp;omega
theorem au (z:Int):aq (decide (z<0)) (ae z.natAbs)=z:=by
 unfold aq;rw [ab]
 by_cases h:z<0
 ·rw [decide_eq_true h,if_pos rfl];omega
 ·rw [decide_eq_false h,if_neg (by decide)];omega
theorem Ep (b:Bool)(ds:List Nat):aq (!b) ds=-aq b ds:=by unfold aq;cases b<;>simp
theorem ll (ds:List Nat):aq false ds=val ds:=rfl
theorem fM {x n:Nat}(h:n=(ae x).length):0<n↔x≠0:=by
 rw [h]
 constructor
 ·intro a b;subst b;simp at a
 ·intro a
  rcases Nat.eq_zero_or_pos (ae x).length with e|e
  ·exact absurd (aT.1 (List.length_eq_zero_iff.1 e)) a
  ·exact e
theorem iH {V:View}(b:Bool){p:OA}{n c x:Nat}(h:RN V p n c x) :
  Acts prog 242 #[.bool b,.slice p n c] V fun r V'=>RI V' r (if b then -(x:Int) else x):=by
 have f:=fM h.len
 refine mZ b p n c V _ ⟨fun a e d=>?_,fun a e d=>?_⟩
 ·rw [if_pos a]
  refine RI.mk ?_ ?_
  ·rw [Bool.eq_iff_iff,decide_eq_true_eq,decide_eq_true_eq]
   omega
  ·rw [Int.natAbs_neg,Int.natAbs_natCast];exact h.le d
 ·rw [a,if_neg (by decide)]
  refine RI.mk ?_ ?_
  ·symm;rw [decide_eq_false_iff_not];omega
  ·rw [Int.natAbs_natCast];exact h.le d
theorem gm {V:View}(b:Bool){p:OA}{n c:Nat}{ds:List Nat}(h:RD V p n c ds)(hm:ds.length<=1099511627776) :
  Acts prog 178 #[.agg #[.bool b,.slice p n c]] V fun r V'=>RI V' r (aq b ds):=by
 refine pR b p n c V _ fun j g=>(gw (h.le g) hm).mono ?_
 rintro r V2 k ⟨l,m,o,rfl,a⟩
 have q:=fM a.len
 have f:=yB b ds
 refine ⟨_,_,_,rfl,fun d i e=>RI.mk ?_ ?_,fun d i e=>RI.mk ?_ ?_⟩
 ·rw [Bool.eq_iff_iff,decide_eq_true_eq,decide_eq_true_eq,f]
  simp [d];omega
 ·rw [cx];exact a.le e
 ·symm;rw [decide_eq_false_iff_not,f];simp [d]
 ·rw [cx];exact a.le e
def eo (b:Bool)(ds:List Nat):Bool:=decide (ae (val ds)=ds)&&(!b||decide (ds≠[]))
theorem eU {V:View}(b:Bool){p:OA}{n c:Nat}{ds:List Nat}(h:RD V p n c ds)(hm:ds.length<=1099511627776) :
  Acts prog 159 #[.agg #[.bool b,.slice p n c]] V fun r V'=>r=.bool (eo b ds):=by
 refine mY b p n c V _ fun m j=>(vI (h.le j) hm).mono ?_
 rintro r V2 o rfl
 refine ⟨_,rfl,fun d=>⟨fun a f g=>?_,fun a f g=>?_⟩,fun d f g=>?_⟩
 ·simp [eo,d];simp at a;simp [a]
 ·have k:=h.len
  simp [eo,d];simp at a;simp [a]
  rw [Bool.eq_iff_iff,decide_eq_true_eq]
  simp
  constructor
  ·intro i l;subst l;simp at k;omega
  ·intro i
   rcases Nat.eq_zero_or_pos ds.length with e|e
   ·exact absurd (List.length_eq_zero_iff.1 e) i
   ·omega
 ·simp [eo,d]
theorem gU {V:View}(n:Int)(h0:-9223372036854775808<=n)(h1:n<=9223372036854775807) :
  Acts prog 179 #[.int .i64 n] V fun r V'=>RI V' r n:=by
 refine lO n V _ ⟨fun a d f=>?_,fun a d f=>?_⟩
 ·have a:n<0:=by simpa using a
  have e:u64.wrap (0-u64.wrap n)=-n:=by rw [n_,n_];omega
  rw [e]
  refine (cM _ (by omega) (by omega)).mono ?_
  rintro r V2 g ⟨h,i,j,rfl,b⟩
  refine ⟨_,_,_,rfl,fun k c=>⟨_,_,_,rfl,?_⟩⟩
  rw [show n.natAbs=(-n).toNat from by omega];exact b.le c
 ·have a:0<=n:=by simpa using a
  rw [aJ (by omega)]
  refine (cM _ (by omega) (by omega)).mono ?_
  rintro r V2 g ⟨h,i,j,rfl,b⟩
  refine ⟨_,_,_,rfl,fun k c=>⟨_,_,_,rfl,?_⟩⟩
  rw [show n.natAbs=n.toNat from by omega];exact b.le c
theorem jV {V:View}(b:Bool){p:OA}{n c:Nat}{ds:List Nat}(h:RD V p n c ds)(hm:ds.length<=1099511627776) :
  Acts prog 182 #[.agg #[.bool b,.slice p n c]] V fun r V'=>r=.int .i64 (aq b ds).sign:=by
 refine pS b p n c V _ fun l k=>(gu (h.le k) hm).mono ?_
 rintro r V2 m rfl
 have f:(aq b ds)=0↔val ds=0:=by rw [←cx b ds];omega
 have g:=yB b ds
 refine ⟨_,rfl,fun a i j=>?_,fun a=>⟨fun d i j=>?_,fun d i j=>?_⟩⟩
 ·have:val ds=0:=iE.1 (by simp at a;omega)
  rw [f.2 this];rfl
 ·have:val ds≠0:=fun e=>by simp [iE.2 e] at a
  rw [Int.sign_eq_neg_one_of_neg (g.2 ⟨d,this⟩)]
 ·have:val ds≠0:=fun e=>by simp [iE.2 e] at a
  have:0<aq b ds:=by
   have:=f
   have:¬aq b ds<0:=by rw [g];simp [d]
   omega
  rw [Int.sign_eq_one_of_pos this]
theorem tg {V:View}(b:Bool){p:OA}{n c:Nat}{ds:List Nat}(h:RD V p n c ds)(hm:ds.length<=1099511627776) :
  Acts prog 237 #[.agg #[.bool b,.slice p n c]] V fun r V'=>RI V' r (-aq b ds):=by
 refine sI b p n c V _ fun f d=>(gm (!b) (h.le d) hm).mono ?_
 rintro r V2 g ⟨i,j,k,rfl,a⟩
 rw [Ep] at a ⊢
 exact ⟨_,_,_,_,rfl,fun l e=>⟨_,_,_,rfl,a.le e⟩⟩
theorem fc {V:View}(b1 b2:Bool){p q:OA}{n c m e:Nat}{xa xb:List Nat}(ha:RD V p n c xa)(hb:RD V q m e xb)(hm:xa.length+xb.length<=1099511627776) :
  Acts prog 229 #[.agg #[.bool b1,.slice p n c],.agg #[.bool b2,.slice q m e]] V fun r V'=>RI V' r (aq b1 xa*aq b2 xb):=by
 refine sH b1 p n c b2 q m e V _ fun i a=>(eV (ha.le a) (hb.le a) hm).mono ?_
 rintro r V2 j ⟨k,l,o,rfl,d⟩
 refine ⟨_,_,_,rfl,fun s f=>(iH _ (d.le f)).mono ?_⟩
 rintro r t u ⟨v,w,x,rfl,b⟩
 have g:(if (!(b1==b2))=true then -((val xa*val xb:Nat):Int) else ((val xa*val xb:Nat):Int))=aq b1 xa*aq b2 xb:=by
  unfold aq;cases b1<;>cases b2<;>simp [Int.neg_mul,Int.mul_neg]
 rw [g] at b ⊢
 exact ⟨_,_,_,_,rfl,fun y h=>⟨_,_,_,rfl,b.le h⟩⟩
theorem te {V:View}(b1 b2:Bool){p q:OA}{n c m e:Nat}{xa xb:List Nat}(ha:RD V p n c xa)(hb:RD V q m e xb)(hm:xa.length<=1099511627776)(hn:xb.length<=1099511627776) :
  Acts prog 228 #[.agg #[.bool b1,.slice p n c],.agg #[.bool b2,.slice q m e]] V fun r V'=>RI V' r (aq b1 xa+aq b2 xb):=by
 have fin:∀{b:Bool} {x:Nat} {i:View} {j:OA} {k l:Nat},RN i j k l x->(if b then -(x:Int) else x)=aq b1 xa+aq b2 xb ->
   Acts prog 242 #[.bool b,.slice j k l] i fun r V'=>∃(DI:Bool)(EU:OA)(EH DP:Nat),r=.agg #[.bool DI,.slice EU EH DP]/\∀o:View,V'.Le o->RI o (.agg #[.bool DI,.slice EU EH DP]) (aq b1 xa+aq b2 xb):=by
  intro b x i j k l h he
  refine (iH b h).mono ?_
  rintro r v w ⟨y,z,A,rfl,a⟩
  rw [he] at a ⊢
  exact ⟨_,_,_,_,rfl,fun B s=>⟨_,_,_,rfl,a.le s⟩⟩
 refine sG b1 p n c b2 q m e V _ ⟨fun f i d=>(CA (ha.le d) (hb.le d) hm hn).mono ?_,fun f i d=>(uw (ha.le d) (hb.le d) hm hn).mono ?_⟩
 ·rintro r V2 t ⟨j,k,l,rfl,u⟩
  have f:b1=b2:=by simpa using f
  subst f
  exact ⟨_,_,_,rfl,fun o g=>fin (u.le g) (by unfold aq;cases b1<;>simp;omega)⟩
 ·rintro r V2 t ⟨j,k,l,rfl,u⟩
  have f:b2=!b1:=by cases b1<;>cases b2<;>simp_all
  subst f
  refine ⟨_,_,_,_,rfl,fun a o g=>fin (u.le g) ?_,fun a o g=>(uw (hb.le (d.trans (t.trans g))) (ha.le (d.trans (t.trans g))) hn hm).mono ?_⟩
  ·have a:val xb<=val xa:=by simpa using a
   unfold aq;cases b1<;>simp<;>omega
  ·rintro r v w ⟨y,z,A,rfl,C⟩
   have a:val xa<val xb:=by simpa using a
   exact ⟨_,_,_,_,rfl,fun B s=>fin (C.le s) (by unfold aq;cases b1<;>simp<;>omega)⟩
theorem pA {V:View}(b:Bool){p:OA}{n c:Nat}{ds:List Nat}(h:RD V p n c ds)(hm:ds.length<=1099511627776)(hs:val ds<4611686018427387904) :
  Acts prog 185 #[.agg #[.bool b,.slice p n c]] V fun r V'=>r=.tuple #[.int .i64 (aq b ds),.bool true]:=by
 refine oh b p n c V _ fun i g=>(ji (h.le g) hm).mono ?_
 rintro r V2 j rfl
 rw [if_pos (by omega),decide_eq_true (show val ds<18446744073709551616 by omega)]
 refine ⟨_,_,rfl,fun _=>⟨fun d=>⟨fun a k l=>?_,fun a=>?_⟩,fun d=>⟨fun _=>⟨fun a=>⟨fun f m o=>?_,fun f=>?_⟩,fun a=>?_⟩,fun a=>nomatch a⟩⟩,fun d=>nomatch d⟩
 ·subst d
  have e:i64.wrap (u64.wrap (0-(val ds:Int)))=-(val ds:Int):=by
   rw [n_,IntKind.wrap_i64];omega
  rw [e];rfl
 ·simp at a;omega
 ·subst d
  rw [i64w (by omega)];rfl
 ·simp at f;omega
 ·simp [d] at a
end Go.Proofs.Tryz
namespace Go.Eng
open Go.Big
def Wd (q:Rat):Prop:=q.num.natAbs<4611686018427387904/\q.den<4611686018427387904
def RR (V:View)(v:Value)(q:Rat):Prop:=
 (v=.agg #[.int .i64 q.num,.int .i64 ((q.den:Int)-1),.pointer none]/\Wd q) \/
 (∃a b p n c p' n' c',v=.agg #[.int .i64 0,.int .i64 0,.pointer (some a)]/\V.at (a.add 0) (.bool b)/\V.at (a.add 1) (.slice p n c)/\V.at (a.add 2) (.slice p' n' c') /\
  RI V (.agg #[.bool b,.slice p n c]) q.num/\RD V p' n' c' (ae q.den)/\¬Wd q)
theorem RR.le {V V':View}{v:Value}{q:Rat}(h:RR V v q)(l:V.Le V'):RR V' v q:=by
 rcases h with h|⟨a,b,p,n,c,d,f,g,e,i,j,k,m,o,r⟩
 ·exact .inl h
 ·exact .inr ⟨a,b,p,n,c,d,f,g,e,l.at i,l.at j,l.at k,m.le l,o.le l,r⟩
def Sz (k:Nat)(q:Rat):Prop:=q.num.natAbs<2^k/\q.den<2^k
theorem Sz.mono {k m:Nat}{q:Rat}(h:Sz k q)(hm:k<=m):Sz m q:=
 ⟨Nat.lt_of_lt_of_le h.1 (Nat.pow_le_pow_right (by omega) hm),Nat.lt_of_lt_of_le h.2 (Nat.pow_le_pow_right (by omega) hm)⟩
theorem af {n k:Nat}(h:n<2^k):(ae n).length<=k:=by
 rw [aC]
 exact Nat.lt_of_lt_of_le h (Nat.pow_le_pow_left (by omega) k)
theorem Wd.sz {q:Rat}(h:Wd q):Sz 62 q:=h
theorem RR.shape {V:View}{v:Value}{q:Rat}(h:RR V v q):∃(n d:Int)(p:OA),v=.agg #[.int .i64 n,.int .i64 d,.pointer p]:=by
 rcases h with ⟨e,-⟩|⟨a,b,p,n,c,f,g,i,e,-⟩
 ·exact ⟨_,_,_,e⟩
 ·exact ⟨_,_,_,e⟩
end Go.Eng
namespace Go.Proofs.Tryz
open Go.Eng Go.Big
theorem vB (n:Nat):decide ((bg n:Int)<=62)=decide (n<4611686018427387904):=by
 have:=@gR n 62
 rw [Bool.eq_iff_iff,decide_eq_true_eq,decide_eq_true_eq]
 omega
theorem C0 {z:Int}{d:Nat}(hd:d≠0)(hg:Nat.gcd z.natAbs d=1):(mkRat z d).num=z/\(mkRat z d).den=d:=by
 have:Nat.gcd d z.natAbs=1:=by rw [Nat.gcd_comm];exact hg
 rw [Rat.num_mkRat,Rat.den_mkRat,if_neg hd,if_neg hd,this]
 simp
theorem bJ {V:View}(b:Bool){p q:OA}{n c m e:Nat}{xs ys:List Nat}(hx:RD V p n c xs)(hy:RD V q m e ys)(hm:xs.length<=1099511627776)(hn:ys.length<=1099511627776) :
  Acts prog 144 #[.agg #[.bool b,.slice p n c],.slice q m e] V fun r V'=>RR V' r (mkRat (aq b xs) (val ys)):=by
 have zero:∀V':View,RR V' (.agg #[.int .i64 0,.int .i64 0,.pointer none]) 0:=fun V'=>.inl ⟨rfl,by unfold Wd;decide⟩
 refine sB b p n c q m e V _ fun G i=>(gu (hy.le i) hn).mono ?_
 rintro r V2 t rfl
 refine ⟨_,rfl,fun O H P=>?_,fun O Q u=>(jV b (hx.le (i.trans (t.trans u))) hm).mono ?_⟩
 ·have:val ys=0:=iE.1 (by simp at O;omega)
  rw [this,Rat.mkRat_zero];exact zero _
 rintro r v y rfl
 have A:val ys≠0:=fun e=>by simp [iE.2 e] at O
 refine ⟨_,rfl,fun R V6 l6=>?_,fun R V7 l7=>?_⟩
 ·have:aq b xs=0:=Int.sign_eq_zero_iff_zero.1 (by simpa using R)
  rw [this,Rat.zero_mkRat];exact zero _
 have a3:aq b xs≠0:=fun e=>by simp [e] at R
 have B:val xs≠0:=by rw [←cx b xs];omega
 replace hx:=hx.le (i.trans (t.trans (u.trans (y.trans l7))))
 replace hy:=hy.le (i.trans (t.trans (u.trans (y.trans l7))))
 refine (uu hx hy hm hn).mono ?_
 rintro r V8 l8 ⟨p3,n3,c3,rfl,C⟩
 replace hx:=hx.le l8
 replace hy:=hy.le l8
 have S:Nat.gcd (val xs) (val ys)<=val ys:=Nat.le_of_dvd (by omega) (Nat.gcd_dvd_right _ _)
 have j:(ae (Nat.gcd (val xs) (val ys))).length<=1099511627776:=Nat.le_trans (ay S) (by have:=aU hy.cI;omega)
 have T:Nat.gcd (val xs) (val ys)≠0:=by
  intro U;exact B (Nat.eq_zero_of_gcd_eq_zero_left U)
 refine ⟨_,_,_,rfl,fun V9 I=>(gu (C.le I) j).mono ?_⟩
 rintro r a4 k rfl
 rw [ab]
 replace hx:=hx.le (I.trans k)
 replace hy:=hy.le (I.trans k)
 replace C:=C.le (I.trans k)
 refine ⟨_,rfl,fun z V'=>∃(us d:List Nat),z.2.2.2.1=b/\RD V' z.2.2.2.2.1 z.2.2.2.2.2.1 z.2.2.2.2.2.2 us/\RD V' z.1 z.2.1 z.2.2.1 d/\us.length<=1099511627776/\d.length<=1099511627776/\val d≠0 /\
  Nat.gcd (val us) (val d)=1/\mkRat (aq b xs) (val ys)=mkRat (aq b us) (val d),⟨fun J a5 f=>?_,fun J=>?_⟩,?_⟩
 ·refine (jh (hx.le f) (C.le f) hm j (by rw [ab];exact T)).mono ?_
  rintro r a6 D ⟨p4,n4,c4,p5,n5,c5,rfl,g1,g2⟩
  refine ⟨_,_,_,_,_,_,_,rfl,fun a7 l=>(jh (hy.le (f.trans (D.trans l))) (C.le (f.trans (D.trans l))) hn j (by rw [ab];exact T)).mono ?_⟩
  rintro r a8 eh ⟨p6,n6,c6,p7,n7,c7,rfl,g3,g4⟩
  rw [ab] at g1 g3
  have e1:val (ae (val xs / Nat.gcd (val xs) (val ys)))=val xs / Nat.gcd (val xs) (val ys):=ab _
  have W:val (ae (val ys / Nat.gcd (val xs) (val ys)))=val ys / Nat.gcd (val xs) (val ys):=ab _
  have d1:=Nat.gcd_dvd_left (val xs) (val ys)
  have d2:=Nat.gcd_dvd_right (val xs) (val ys)
  have X:val ys / Nat.gcd (val xs) (val ys)≠0:=by
   intro U
   have:=Nat.div_mul_cancel d2
   rw [U,Nat.zero_mul] at this
   exact A this.symm
  refine ⟨_,_,_,_,_,_,_,rfl,(p6,n6,c6,b,p4,n4,c4),by (try dsimp only);and_intros<;>trivial,_,_,rfl,g1.le (l.trans eh),g3,?_,?_,?_,?_,?_⟩
  ·exact Nat.le_trans (ay (Nat.div_le_self _ _)) (by have:=aU hx.cI;omega)
  ·exact Nat.le_trans (ay (Nat.div_le_self _ _)) (by have:=aU hy.cI;omega)
  ·rw [W];exact X
  ·rw [e1,W];exact Nat.gcd_div_gcd_div_gcd_of_pos_left (by omega)
  ·rw [W]
   have k1:val ys=val ys / Nat.gcd (val xs) (val ys)*Nat.gcd (val xs) (val ys):=(Nat.div_mul_cancel d2).symm
   have k2:aq b xs=aq b (ae (val xs / Nat.gcd (val xs) (val ys)))*(Nat.gcd (val xs) (val ys):Nat):=by
    have k3:(val xs:Int)=((val xs / Nat.gcd (val xs) (val ys):Nat):Int)*(Nat.gcd (val xs) (val ys):Nat):=by
     rw [←Int.natCast_mul,Nat.div_mul_cancel d1]
    unfold aq
    rw [e1]
    cases b
    ·simpa using k3
    ·simp only [if_true];rw [Int.neg_mul,←k3]
   conv=>lhs;rw [k1,k2]
   exact Rat.mkRat_mul_right T
 ·have Y:Nat.gcd (val xs) (val ys)=1:=by
   have g:¬(1<bg (Nat.gcd (val xs) (val ys))):=by simp at J;omega
   have:=@gR (Nat.gcd (val xs) (val ys)) 1
   omega
  exact ⟨(q,m,e,b,p,n,c),by (try dsimp only);and_intros<;>trivial,xs,ys,rfl,hx,hy,hm,hn,A,Y,rfl⟩
 ·rintro ⟨q,m,e,h,p,n,c⟩ Z en ⟨us,d,E,hu,K,Ki,o,a0,a1,hq⟩
  dsimp only at E hu K ⊢
  subst E
  rw [hq]
  obtain ⟨pG,a⟩:=C0 (z:=aq h us) a0 (by rw [cx];exact a1)
  generalize mkRat (aq h us) (val d)=w at *
  have hW:Wd w↔val us<4611686018427387904/\val d<4611686018427387904:=by
   unfold Wd;rw [pG,a,cx]
  have Hk:∀G:View,Z.Le G->¬Wd w->Acts prog 178 #[.agg #[.bool h,.slice p n c]] G fun r V2=>∃(DI:Bool)(EU:OA)(EH DP:Nat),r=.agg #[.bool DI,.slice EU EH DP] /\
    (∀H:View,V2.Le H->Acts prog 187 #[.slice q m e] H fun r Q=>∃(PG:OA)(PD OY:Nat),r=.slice PG PD OY /\
    (∀v:View,Q.Le v->∀L:Nat,v.aZ L (.cells #[.bool DI,.slice EU EH DP,.slice PG PD OY] 289 (0,0))->RR v (.agg #[.int .i64 0,.int .i64 0,.pointer (some ⟨L,0,none⟩)]) w)):=by
   intro G i hw
   refine (gm h (hu.le i) Ki).mono ?_
   rintro r V2 t Dy
   obtain ⟨p2,n2,c2,rfl,J⟩:=Dy
   have Dy:RI V2 (.agg #[.bool (decide (aq h us<0)),.slice p2 n2 c2]) (aq h us):=⟨_,_,_,rfl,J⟩
   refine ⟨_,_,_,_,rfl,fun H P=>(gw (K.le (i.trans (t.trans P))) o).mono ?_⟩
   rintro r Q u ⟨p3,n3,c3,rfl,g⟩
   refine ⟨_,_,_,rfl,fun v y L hb=>.inr ⟨⟨L,0,none⟩,decide (aq h us<0),p2,n2,c2,p3,n3,c3,rfl,?_,?_,?_,?_,?_,hw⟩⟩
   ·rw [add_zero'];exact blk_at (xs:=[_,_,_]) hb rfl
   ·rw [add_zero'];exact blk_at (xs:=[_,_,_]) hb rfl
   ·rw [add_zero'];exact blk_at (xs:=[_,_,_]) hb rfl
   ·rw [pG];exact Dy.le (P.trans (u.trans y))
   ·rw [a];exact g.le y
  refine ⟨by trivial,fun lV s=>(gu (hu.le s) Ki).mono ?_⟩
  rintro r oB F rfl
  refine ⟨_,rfl,fun g qj M=>(gu (K.le (s.trans (F.trans M))) o).mono ?_,fun g LP Dz=>Hk LP (s.trans (F.trans Dz)) ?_⟩
  ·rintro r vl fW rfl
   rw [vB,decide_eq_true_eq] at g
   refine ⟨_,rfl,fun N BF kb=>?_,fun N FL a2=>Hk FL (s.trans (F.trans (M.trans (fW.trans a2)))) ?_⟩
   ·rw [vB,decide_eq_true_eq] at N
    refine (pA h (hu.le (s.trans (F.trans (M.trans (fW.trans kb))))) Ki g).mono ?_
    rintro r sZ gN rfl
    refine ⟨_,_,rfl,fun xo kQ=>(ji (K.le (s.trans (F.trans (M.trans (fW.trans (kb.trans (gN.trans kQ))))))) o).mono ?_⟩
    rintro r xp jP rfl
    rw [if_pos (by omega)]
    refine ⟨_,_,rfl,fun FK Ex=>.inl ⟨?_,hW.2 ⟨g,N⟩⟩⟩
    rw [i64w (x:=((val d:Nat):Int)) (by omega),i64w (by omega),pG,a]
   ·rw [vB,decide_eq_false_iff_not] at N
    rw [hW];omega
  ·rw [vB,decide_eq_false_iff_not] at g
   rw [hW];omega
end Go.Proofs.Tryz
namespace Go.Eng
open Go.Big
theorem RI.inv {V:View}{b:Bool}{p:OA}{n c:Nat}{z:Int}(h:RI V (.agg #[.bool b,.slice p n c]) z):b=decide (z<0)/\RD V p n c (ae z.natAbs):=by
 obtain ⟨d,f,g,e,a⟩:=h
 simp at e
 obtain ⟨rfl,rfl,rfl,rfl⟩:=e
 exact ⟨rfl,a⟩
end Go.Eng
namespace Go.Proofs.Tryz
open Go.Eng Go.Big
theorem ew {V:View}{v:Value}{q:Rat}(h:RR V v q){k:Nat}(hs:Sz k q)(hk:k<=1099511627776) :
  Acts prog 139 #[v] V fun r V'=>RI V' r q.num:=by
 rcases h with ⟨rfl,hw⟩|⟨a,b,p,n,c,u,w,x,rfl,i,j,y,l,z,hw⟩
 ·have:=hw.1
  refine kW _ _ _ V _ ⟨(fun d=>nomatch d),fun _ m f=>(gU _ (by omega) (by omega)).mono ?_⟩
  rintro r V2 o ⟨p,n,c,rfl,g⟩
  exact ⟨_,_,_,_,rfl,fun s e=>⟨_,_,_,rfl,g.le e⟩⟩
 ·obtain ⟨rfl,t⟩:=l.inv
  refine kW _ _ _ V _ ⟨fun _=>⟨rfl,rfl,decide (q.num<0),p,n,c,a.add 0,rfl,?_,?_,fun m f=>(gm _ (t.le f) (Nat.le_trans (af hs.1) hk)).mono ?_⟩,fun d=>nomatch d⟩
  ·exact i
  ·simpa [Addr.add] using j
  ·rintro r V2 o ⟨p,n,c,rfl,g⟩
   rw [au] at g ⊢
   exact ⟨_,_,_,_,rfl,fun s e=>⟨_,_,_,rfl,g.le e⟩⟩
theorem dK {V:View}{v:Value}{q:Rat}(h:RR V v q){k:Nat}(hs:Sz k q)(hk:k<=1099511627776) :
  Acts prog 207 #[v] V fun r V'=>∃p n c,r=.slice p n c/\RN V' p n c q.den:=by
 rcases h with ⟨rfl,hw⟩|⟨a,b,p,n,c,s,t,u,rfl,w,x,i,y,j,hw⟩
 ·have:=hw.2
  have z:=q.den_nz
  refine kT _ _ _ V _ ⟨(fun d=>nomatch d),fun _ l f=>?_⟩
  rw [i64w (by omega),aJ (by omega)]
  refine (cM _ (by omega) (by omega)).mono ?_
  rintro r V2 m ⟨p,n,c,rfl,g⟩
  rw [show ((q.den:Int)-1+1).toNat=q.den from by omega] at g
  exact ⟨_,_,_,rfl,fun o e=>⟨_,_,_,rfl,g.le e⟩⟩
 ·refine kT _ _ _ V _ ⟨fun _=>⟨rfl,rfl,_,_,_,⟨_,rfl,i⟩,fun l f=>(gw (j.le f) (Nat.le_trans (af hs.2) hk)).mono ?_⟩,fun d=>nomatch d⟩
  rintro r V2 m ⟨p,n,c,rfl,g⟩
  rw [ab] at g
  exact ⟨_,_,_,rfl,fun o e=>⟨_,_,_,rfl,g.le e⟩⟩
theorem gk {V:View}(n:Int)(h0:-9223372036854775808<n)(h1:n<=9223372036854775807) :
  Acts prog 205 #[.int .i64 n] V fun r V'=>r=.int .u64 (n.natAbs:Int):=by
 refine zA n V _ ⟨fun a b c=>?_,fun a b c=>?_⟩
 ·have a:n<0:=by simpa using a
  rw [i64w (by omega),aJ (by omega)];congr 1;omega
 ·have a:0<=n:=by simpa using a
  rw [aJ (by omega)];congr 1;omega
theorem qA {V:View}(x y:Nat)(hx:x<18446744073709551616)(hy:y<18446744073709551616) :
  Acts prog 204 #[.int .u64 (x:Int),.int .u64 (y:Int)] V fun r V'=>r=.int .u64 (Nat.gcd x y:Int):=by
 refine zB _ _ V _ ⟨fun z V'=>∃a b:Nat,z=((a:Int),(b:Int))/\Nat.gcd a b=Nat.gcd x y,fun z=>z.2.toNat,
  ⟨((x:Int),(y:Int)),by (try dsimp only);and_intros<;>trivial,x,y,rfl,rfl⟩,?_⟩
 rintro _ g h ⟨a,b,rfl,c⟩
 dsimp only
 refine ⟨by trivial,fun d=>?_,fun d i j=>?_⟩
 ·have d:b≠0:=by rw [bne_iff_ne] at d;omega
  have e:a%b<b:=Nat.mod_lt _ (by omega)
  have f:(a:Int).tmod (b:Int)=((a%b:Nat):Int):=by rw [Int.tmod_eq_emod_of_nonneg (by omega),←Int.natCast_emod]
  rw [f]
  exact ⟨by omega,((b:Int),((a%b:Nat):Int)),by (try dsimp only);rw [Int.toNat_natCast,Int.toNat_natCast];exact e,by (try dsimp only);and_intros<;>trivial,b,a%b,rfl,by rw [qY,c]⟩
 ·have d:b=0:=by rw [bne_eq_false_iff_eq] at d;omega
  subst d
  rw [Nat.gcd_zero_right] at c
  rw [c]
theorem eE {V:View}(a b:Int)(ha:a.natAbs<4611686018427387904)(hb:b.natAbs<4611686018427387904) :
  Acts prog 226 #[.int .i64 a,.int .i64 b] V fun r V'=>∃z:Int,r=.tuple #[.int .i64 z,.bool (decide ((a*b).natAbs<4611686018427387904))]/\((a*b).natAbs<4611686018427387904->z=a*b):=by
 refine tI a b V _ fun k l=>(gk a (by omega) (by omega)).mono ?_
 rintro r V2 m rfl
 refine ⟨_,rfl,fun n o=>(gk b (by omega) (by omega)).mono ?_⟩
 rintro r q s rfl
 refine ⟨_,rfl,fun t u=>(FV _ _ (by omega) (by omega)).mono ?_⟩
 rintro r v w rfl
 have g:(a*b).natAbs=a.natAbs*b.natAbs:=Int.natAbs_mul a b
 have f:a*b=if (decide (a<0)==decide (b<0)) then ((a.natAbs*b.natAbs:Nat):Int) else -((a.natAbs*b.natAbs:Nat):Int):=by
  rw [Int.natCast_mul]
  by_cases c:a<0<;>by_cases d:b<0
  ·rw [decide_eq_true c,decide_eq_true d,show (a.natAbs:Int)=-a from by omega,show (b.natAbs:Int)=-b from by omega];simp [Int.neg_mul,Int.mul_neg]
  ·rw [decide_eq_true c,decide_eq_false d,if_neg (by decide),show (a.natAbs:Int)=-a from by omega,show (b.natAbs:Int)=b from by omega];simp [Int.neg_mul]
  ·rw [decide_eq_false c,decide_eq_true d,if_neg (by decide),show (a.natAbs:Int)=a from by omega,show (b.natAbs:Int)=-b from by omega];simp [Int.mul_neg]
  ·rw [decide_eq_false c,decide_eq_false d,show (a.natAbs:Int)=a from by omega,show (b.natAbs:Int)=b from by omega];simp
 rw [g]
 generalize a.natAbs*b.natAbs=p at *
 refine ⟨_,_,rfl,fun e i j=>?_,fun e=>⟨fun c i j=>?_,fun c=>⟨fun d i j=>?_,fun d i j=>?_⟩⟩⟩
 ·have e:18446744073709551616<=p:=by rw [bne_iff_ne] at e;omega
  rw [decide_eq_false (by omega)]
  exact ⟨_,rfl,fun h=>by omega⟩
 ·have c:4611686018427387904<=p:=by
   rw [decide_eq_true_eq] at c;omega
  rw [decide_eq_false (by omega)]
  exact ⟨_,rfl,fun h=>by omega⟩
 ·have e:p / 18446744073709551616=0:=by rw [bne_eq_false_iff_eq] at e;omega
  have c:p<4611686018427387904:=by rw [decide_eq_false_iff_not] at c;omega
  rw [decide_eq_true c,i64w (x:=((p%18446744073709551616:Nat):Int)) (by omega),i64w (by omega)]
  refine ⟨_,rfl,fun _=>?_⟩
  have d:(decide (a<0)==decide (b<0))=false:=by simpa using d
  rw [f,d,if_neg (by decide)];omega
 ·have e:p / 18446744073709551616=0:=by rw [bne_eq_false_iff_eq] at e;omega
  have c:p<4611686018427387904:=by rw [decide_eq_false_iff_not] at c;omega
  rw [decide_eq_true c,i64w (x:=((p%18446744073709551616:Nat):Int)) (by omega)]
  refine ⟨_,rfl,fun _=>?_⟩
  have d:(decide (a<0)==decide (b<0))=true:=by simpa using d
  rw [f,d,if_pos rfl];omega
theorem kN {V:View}(n:Int)(d:Nat)(hn:n.natAbs<4611686018427387904)(hd:d<4611686018427387904)(hd0:d≠0) :
  Acts prog 227 #[.int .i64 n,.int .i64 (d:Int)] V fun r V'=>RR V' r (mkRat n d):=by
 refine sw n _ V _ fun o p=>(gk n (by omega) (by omega)).mono ?_
 rintro r V2 q rfl
 rw [aJ (x:=(d:Int)) (by omega)]
 refine ⟨_,rfl,fun s t=>(qA _ _ (by omega) (by omega)).mono ?_⟩
 rintro r u v rfl
 have g:Nat.gcd n.natAbs d<=d:=Nat.le_of_dvd (by omega) (Nat.gcd_dvd_right _ _)
 have w:0<Nat.gcd n.natAbs d:=Nat.gcd_pos_of_pos_right _ (by omega)
 have c:=Rat.num_mkRat n d
 have a:=Rat.den_mkRat n d
 rw [if_neg hd0,Nat.gcd_comm] at c a
 have b:(Nat.gcd n.natAbs d:Int)∣n:=Int.ofNat_dvd_left.2 (Nat.gcd_dvd_left _ _)
 have h:d / Nat.gcd n.natAbs d<=d:=Nat.div_le_self _ _
 have i:(n / (Nat.gcd n.natAbs d:Int)).natAbs<=n.natAbs:=by
  rw [Int.natAbs_ediv_of_dvd b,Int.natAbs_natCast];exact Nat.div_le_self _ _
 have f:Wd (mkRat n d):=by unfold Wd;rw [c,a];omega
 refine ⟨_,rfl,?_⟩
 rw [i64w (x:=((Nat.gcd n.natAbs d:Nat):Int)) (by omega)]
 refine ⟨fun e=>⟨by omega,by omega,fun j k=>.inl ⟨?_,f⟩⟩,fun e j k=>.inl ⟨?_,f⟩⟩
 ·rw [c,a]
  have l:n.tdiv (Nat.gcd n.natAbs d:Int)=n / (Nat.gcd n.natAbs d:Int):=Int.tdiv_eq_ediv_of_dvd b
  have m:(d:Int).tdiv (Nat.gcd n.natAbs d:Int)=((d / Nat.gcd n.natAbs d:Nat):Int):=by rw [Int.tdiv_eq_ediv_of_nonneg (by omega),←Int.natCast_ediv]
  rw [l,m]
  generalize n / (Nat.gcd n.natAbs d:Int)=nn at *
  generalize d / Nat.gcd n.natAbs d=dd at *
  rw [i64w (by omega),i64w (x:=(dd:Int)) (by omega),i64w (by omega)]
 ·have e:Nat.gcd n.natAbs d=1:=by rw [decide_eq_false_iff_not] at e;omega
  rw [c,a,e,i64w (by omega)]
  simp
theorem mkRat_one (z:Int):mkRat z 1=(z:Rat):=by
 apply Rat.ext
 ·rw [Rat.num_mkRat];simp
 ·rw [Rat.den_mkRat];simp
theorem RD.one {V:View}{bk:Nat}{ty:TypeId}{m:Nat×Nat}(h:V.aZ bk (.cells #[.int .u32 1] ty m)):RD V (some ⟨bk,0,none⟩) 1 1 [1]:=
 RD.aZ (ds:=[1]) h (by simp [bl]) rfl (Nat.le_refl _)
theorem je {V:View}(b:Bool){p:OA}{n c:Nat}{ds:List Nat}(h:RD V p n c ds)(hm:ds.length<=1099511627776) :
  Acts prog 160 #[.agg #[.bool b,.slice p n c]] V fun r V'=>RR V' r (aq b ds:Rat):=by
 refine tH b p n c V _ fun j f k g=>(bJ b (h.le f) (RD.one g) hm (by simp)).mono ?_
 rintro r V2 l a
 have e:mkRat (aq b ds) (val [1])=(aq b ds:Rat):=mkRat_one _
 rw [e] at a
 obtain ⟨n,d,p,rfl⟩:=a.shape
 exact ⟨_,_,_,rfl,fun _ m i=>a.le i⟩
theorem rf {z:Int}(h:z.natAbs<4611686018427387904):Wd (z:Rat):=⟨h,by show (1:Nat)<_;decide⟩
theorem gj {V:View}(n:Int)(h0:-9223372036854775808<=n)(h1:n<=9223372036854775807) :
  Acts prog 164 #[.int .i64 n] V fun r V'=>RR V' r (n:Rat):=by
 have Hk:∀b:View,V.Le b->Acts prog 179 #[.int .i64 n] b fun j V2=>∃DI:Bool,∃(EU:OA)(EH DP:Nat),j=.agg #[.bool DI,.slice EU EH DP]/\(∀a:View,V2.Le a->∀JG:Nat,a.aZ JG (.cells #[.int .u32 1] 225 (0,0))->Acts prog 144 #[.agg #[.bool DI,.slice EU EH DP],.slice (some ⟨JG,0,none⟩) 1 1] a fun l i=>∃PO:Int,∃PR:Int,∃PH:OA,l=.agg #[.int .i64 PO,.int .i64 PR,.pointer PH]/\∀SI:C->Value,(∀V5:View,i.Le V5->RR V5 (.agg #[.int .i64 PO,.int .i64 PR,.pointer PH]) (n:Rat))):=by
  intro b o
  refine (gU n h0 h1).mono ?_
  rintro r V2 u ⟨p,m,c,rfl,g⟩
  refine ⟨_,_,_,_,rfl,fun a f v q=>(bJ _ (g.le f) (RD.one q) (Nat.le_trans (af (k:=64) (by omega)) (by omega)) (by simp)).mono ?_⟩
  rintro r i w h
  have e:mkRat (aq (decide (n<0)) (ae n.natAbs)) (val [1])=(n:Rat):=by rw [au];exact mkRat_one _
  rw [e] at h
  obtain ⟨n,d,p,rfl⟩:=h.shape
  exact ⟨_,_,_,rfl,fun _ a f=>h.le f⟩
 refine zx n V _ ⟨fun _=>Hk,fun s=>⟨fun _=>Hk,fun t b o=>.inl ⟨rfl,rf ?_⟩⟩⟩
 rw [decide_eq_false_iff_not] at s t
 omega
theorem eC {V:View}{v:Value}{q:Rat}(h:RR V v q){k:Nat}(hs:Sz k q)(hk:k<=1099511627776) :
  Acts prog 146 #[v] V fun r V'=>r=.int .i64 q.num.sign:=by
 rcases h with ⟨rfl,hw⟩|⟨a,b,p,n,c,o,s,t,rfl,i,j,u,l,w,hw⟩
 ·refine ku _ _ _ V _ ⟨(fun e=>nomatch e),fun _=>⟨fun h f d=>?_,fun h=>⟨fun g f d=>?_,fun g f d=>?_⟩⟩⟩
  ·rw [Int.sign_eq_neg_one_of_neg (by simpa using h)]
  ·rw [Int.sign_eq_one_of_pos (by simpa using g)]
  ·have:q.num=0:=by rw [decide_eq_false_iff_not] at h g;omega
   rw [this];rfl
 ·obtain ⟨rfl,m⟩:=l.inv
  refine ku _ _ _ V _ ⟨fun _=>⟨rfl,rfl,decide (q.num<0),p,n,c,a.add 0,rfl,?_,?_,fun f d=>(jV _ (m.le d) (Nat.le_trans (af hs.1) hk)).mono ?_⟩,(fun e=>nomatch e)⟩
  ·exact i
  ·simpa [Addr.add] using j
  ·rintro r V2 x rfl
   rw [au]
   exact ⟨_,rfl,fun y z=>rfl⟩
theorem xG {V:View}{v:Value}{q:Rat}(h:RR V v q):Acts prog 161 #[v] V fun r V'=>r=.bool (decide (q=0)):=by
 rcases h with ⟨rfl,hw⟩|⟨a,b,p,n,c,i,j,k,rfl,l,m,o,s,t,hw⟩
 ·refine kv _ _ _ V _ ⟨fun _ f g=>?_,(fun d=>nomatch d)⟩
  congr 1
  rw [Bool.eq_iff_iff,beq_iff_eq,decide_eq_true_eq]
  exact Rat.num_eq_zero
 ·refine kv _ _ _ V _ ⟨(fun d=>nomatch d),fun _ f g=>?_⟩
  congr 1
  symm;rw [decide_eq_false_iff_not]
  intro e;subst e;exact hw ⟨by decide,by decide⟩
theorem gT {V:View}{v:Value}{q:Rat}(h:RR V v q){k:Nat}(hs:Sz k q)(hk:k<=1099511627776) :
  Acts prog 214 #[v] V fun r V'=>RR V' r (-q):=by
 rcases h with ⟨rfl,hw⟩|⟨a,b,p,n,c,i,j,l,rfl,s,t,u,w,x,hw⟩
 ·have:=hw.1
  refine kV _ _ _ V _ ⟨(fun d=>nomatch d),fun _ y e=>.inl ⟨?_,by unfold Wd;rw [Rat.neg_num,Rat.neg_den,Int.natAbs_neg];exact hw⟩⟩
  rw [i64w (by omega),Rat.neg_num,Rat.neg_den,Int.zero_sub]
 ·obtain ⟨rfl,z⟩:=w.inv
  refine kV _ _ _ V _ ⟨fun _=>⟨rfl,rfl,decide (q.num<0),p,n,c,a.add 0,rfl,?_,?_,rfl,rfl,i,j,l,⟨_,rfl,u⟩,fun y e=>(tg _ (z.le e) (Nat.le_trans (af hs.1) hk)).mono ?_⟩,(fun d=>nomatch d)⟩
  ·exact s
  ·simpa [Addr.add] using t
  ·rintro r V2 A m
   rw [au] at m
   obtain ⟨B,C,D,rfl,g⟩:=m
   refine ⟨_,_,_,_,rfl,fun F o E f=>.inr ⟨⟨E,0,none⟩,decide (-q.num<0),B,C,D,i,j,l,rfl,?_,?_,?_,?_,?_,?_⟩⟩
   ·rw [add_zero'];exact blk_at (xs:=[_,_,_]) f rfl
   ·rw [add_zero'];exact blk_at (xs:=[_,_,_]) f rfl
   ·rw [add_zero'];exact blk_at (xs:=[_,_,_]) f rfl
   ·exact ⟨_,_,_,rfl,g.le o⟩
   ·exact x.le (e.trans (A.trans o))
   ·unfold Wd;rw [Rat.neg_num,Rat.neg_den,Int.natAbs_neg];exact hw
theorem _root_.Go.Eng.Sz.neg {k:Nat}{q:Rat}(h:Sz k q):Sz k (-q):=by unfold Sz;rw [Rat.neg_num,Rat.neg_den,Int.natAbs_neg];exact h
theorem rK (z:Int)(g:Nat)(h:(g:Int)∣z):(z / g).natAbs<=z.natAbs:=by
 rw [Int.natAbs_ediv_of_dvd h,Int.natAbs_natCast];exact Nat.div_le_self _ _
theorem _root_.Go.Eng.Sz.mkRat {k:Nat}{z:Int}{d:Nat}(h1:z.natAbs<2^k)(h2:d<2^k)(hk:0<k):Sz k (mkRat z d):=by
 have a:1<2^k:=Nat.one_lt_two_pow (by omega)
 unfold Sz
 rw [Rat.num_mkRat,Rat.den_mkRat]
 split
 ·exact ⟨Nat.two_pow_pos k,a⟩
 ·refine ⟨Nat.lt_of_le_of_lt (rK _ _ (Int.ofNat_dvd_left.2 (Nat.gcd_dvd_right _ _))) h1,Nat.lt_of_le_of_lt (Nat.div_le_self _ _) h2⟩
theorem bG {a b k m:Nat}(h1:a<2^k)(h2:b<2^m):a*b<2^(k+m):=by rw [Nat.pow_add];exact Nat.mul_lt_mul'' h1 h2
theorem qk {x y:Rat}{k m:Nat}(hx:Sz k x)(hy:Sz m y):(x.num*y.den).natAbs<2^(k+m)/\(y.num*x.den).natAbs<2^(k+m)/\(x.num*y.den+y.num*x.den).natAbs<2^(k+m+1)/\x.den*y.den<2^(k+m):=by
 have a:(x.num*y.den).natAbs<2^(k+m):=by rw [Int.natAbs_mul,Int.natAbs_natCast];exact bG hx.1 hy.2
 have b:(y.num*x.den).natAbs<2^(k+m):=by rw [Int.natAbs_mul,Int.natAbs_natCast,Nat.add_comm];exact bG hy.1 hx.2
 refine ⟨a,b,?_,bG hx.2 hy.2⟩
 rw [Nat.pow_succ];omega
theorem _root_.Go.Eng.Sz.add {x y:Rat}{k m:Nat}(hx:Sz k x)(hy:Sz m y):Sz (k+m+1) (x+y):=by
 obtain ⟨-,-,a,b⟩:=qk hx hy
 rw [Rat.add_def']
 exact Go.Eng.Sz.mkRat a (Nat.lt_of_lt_of_le b (Nat.pow_le_pow_right (by omega) (by omega))) (by omega)
theorem _root_.Go.Eng.Sz.sub {x y:Rat}{k m:Nat}(hx:Sz k x)(hy:Sz m y):Sz (k+m+1) (x-y):=by
 rw [Rat.sub_eq_add_neg];exact hx.add hy.neg
theorem _root_.Go.Eng.Sz.mul {x y:Rat}{k m:Nat}(hx:Sz k x)(hy:Sz m y):Sz (k+m+1) (x*y):=by
 rw [Rat.mul_def']
 refine (Go.Eng.Sz.mkRat (k:=k+m+1) ?_ ?_ (by omega))
 ·rw [Int.natAbs_mul];exact Nat.lt_of_lt_of_le (bG hx.1 hy.1) (Nat.pow_le_pow_right (by omega) (by omega))
 ·exact Nat.lt_of_lt_of_le (bG hx.2 hy.2) (Nat.pow_le_pow_right (by omega) (by omega))
theorem ja {V:View}{v w:Value}{x y:Rat}(hx:RR V v x)(hy:RR V w y){k m:Nat}(hk:Sz k x)(hm:Sz m y)(hkm:k+m<1099511627776) :
  Acts prog 188 #[v,w] V fun r V'=>RR V' r (x+y):=by
 obtain ⟨Q,R,S,rfl⟩:=hx.shape
 obtain ⟨T,s1,s2,rfl⟩:=hy.shape
 have o:x+y=mkRat (x.num*y.den+y.num*x.den) (x.den*y.den):=Rat.add_def' x y
 obtain ⟨b1,b2,b3,b4⟩:=qk hk hm
 have gen:(∀Ov:View,V.Le Ov->Acts prog 139 #[.agg #[.int .i64 Q,.int .i64 R,.pointer S]] Ov fun NF PX=>∃JB:Bool,∃(EV:OA)(EI DQ:Nat),NF=.agg #[.bool JB,.slice EV EI DQ]/\(∀Ow:View,PX.Le Ow->Acts prog 207 #[.agg #[.int .i64 T,.int .i64 s1,.pointer s2]] Ow fun NG PY=>∃(KW:OA)(KG JJ:Nat),NG=.slice KW KG JJ/\(∀Ox:View,PY.Le Ox->Acts prog 229 #[.agg #[.bool JB,.slice EV EI DQ],.agg #[.bool false,.slice KW KG JJ]] Ox fun NH PZ=>∃JC:Bool,∃(EW:OA)(EJ DR:Nat),NH=.agg #[.bool JC,.slice EW EJ DR]/\(∀Oy:View,PZ.Le Oy->Acts prog 139 #[.agg #[.int .i64 T,.int .i64 s1,.pointer s2]] Oy fun NI P0=>∃JD:Bool,∃(KZ:OA)(KJ JM:Nat),NI=.agg #[.bool JD,.slice KZ KJ JM]/\(∀Oz:View,P0.Le Oz->Acts prog 207 #[.agg #[.int .i64 Q,.int .i64 R,.pointer S]] Oz fun NJ P1=>∃(EX:OA)(EK DS:Nat),NJ=.slice EX EK DS/\(∀OB:View,P1.Le OB->Acts prog 229 #[.agg #[.bool JD,.slice KZ KJ JM],.agg #[.bool false,.slice EX EK DS]] OB fun NK P2=>∃JE:Bool,∃(EY:OA)(EL DT:Nat),NK=.agg #[.bool JE,.slice EY EL DT]/\(∀OC:View,P2.Le OC->Acts prog 228 #[.agg #[.bool JC,.slice EW EJ DR],.agg #[.bool JE,.slice EY EL DT]] OC fun NL P3=>∃JF:Bool,∃(K3:OA)(KM JP:Nat),NL=.agg #[.bool JF,.slice K3 KM JP]/\(∀OD:View,P3.Le OD->Acts prog 207 #[.agg #[.int .i64 Q,.int .i64 R,.pointer S]] OD fun NM P4=>∃(K4:OA)(KN JQ:Nat),NM=.slice K4 KN JQ/\(∀OE:View,P4.Le OE->Acts prog 207 #[.agg #[.int .i64 T,.int .i64 s1,.pointer s2]] OE fun NN P5=>∃(EZ:OA)(KO JR:Nat),NN=.slice EZ KO JR/\(∀OG:View,P5.Le OG->Acts prog 206 #[.slice K4 KN JQ,.slice EZ KO JR] OG fun NO P6=>∃(K5:OA)(KP JS:Nat),NO=.slice K5 KP JS/\(∀OH:View,P6.Le OH->Acts prog 144 #[.agg #[.bool JF,.slice K3 KM JP],.slice K5 KP JS] OH fun NP P7=>∃LB:Int,∃LC:Int,∃K6:OA,NP=.agg #[.int .i64 LB,.int .i64 LC,.pointer K6]/\(∀OJ:View,P7.Le OJ->RR OJ (.agg #[.int .i64 LB,.int .i64 LC,.pointer K6]) (x+y))))))))))))):=by
  intro u g
  refine (ew (hx.le g) hk (by omega)).mono ?_
  rintro r V2 i ⟨p1,n1,c1,rfl,B⟩
  refine ⟨_,_,_,_,rfl,fun V3 j=>(dK (hy.le (g.trans (i.trans j))) hm (by omega)).mono ?_⟩
  rintro r V4 C ⟨p2,n2,c2,rfl,D⟩
  have q1:=af hk.1
  have q2:=af hk.2
  have q3:=af hm.1
  have q4:=af hm.2
  refine ⟨_,_,_,rfl,fun V5 z=>(fc _ false (B.le (j.trans (C.trans z))) (D.le z) (by omega)).mono ?_⟩
  rintro r V6 K h6
  rw [au,ll,ab] at h6
  obtain ⟨p3,n3,c3,rfl,A⟩:=h6
  refine ⟨_,_,_,_,rfl,fun V7 E=>(ew (hy.le (g.trans (i.trans (j.trans (C.trans (z.trans (K.trans E))))))) hm (by omega)).mono ?_⟩
  rintro r V8 L ⟨p4,n4,c4,rfl,M⟩
  refine ⟨_,_,_,_,rfl,fun V9 F=>(dK (hx.le (g.trans (i.trans (j.trans (C.trans (z.trans (K.trans (E.trans (L.trans F))))))))) hk (by omega)).mono ?_⟩
  rintro r U l ⟨p5,n5,c5,rfl,N⟩
  refine ⟨_,_,_,rfl,fun W f=>(fc _ false (M.le (F.trans (l.trans f))) (N.le f) (by omega)).mono ?_⟩
  rintro r a3 G H
  rw [au,ll,ab] at H
  obtain ⟨p6,n6,c6,rfl,g6⟩:=H
  have q5:=af b1
  have q6:=af b2
  refine ⟨_,_,_,_,rfl,fun a4 q=>(te _ _ (A.le (E.trans (L.trans (F.trans (l.trans (f.trans (G.trans q))))))) (g6.le q) (by omega) (by omega)).mono ?_⟩
  rintro r a5 eh Dv
  rw [au,au] at Dv
  obtain ⟨p7,n7,c7,rfl,g7⟩:=Dv
  have DC:=g.trans (i.trans (j.trans (C.trans (z.trans (K.trans (E.trans (L.trans (F.trans (l.trans (f.trans (G.trans (q.trans eh))))))))))))
  refine ⟨_,_,_,_,rfl,fun a6 X=>(dK (hx.le (DC.trans X)) hk (by omega)).mono ?_⟩
  rintro r lV dB ⟨p8,n8,c8,rfl,g8⟩
  refine ⟨_,_,_,rfl,fun oB Y=>(dK (hy.le (DC.trans (X.trans (dB.trans Y)))) hm (by omega)).mono ?_⟩
  rintro r qj eQ ⟨p9,n9,c9,rfl,g9⟩
  refine ⟨_,_,_,rfl,fun vl Z=>(eV (g8.le (Y.trans (eQ.trans Z))) (g9.le Z) (by omega)).mono ?_⟩
  rintro r BF kb ⟨NB,a7,a8,rfl,I⟩
  rw [ab,ab] at I
  have q7:=af b3
  have q8:=af b4
  refine ⟨_,_,_,rfl,fun sZ gN=>(bJ _ (g7.le (X.trans (dB.trans (Y.trans (eQ.trans (Z.trans (kb.trans gN))))))) (I.le gN) (by omega) (by omega)).mono ?_⟩
  rintro r xo kQ s
  rw [au,ab,←o] at s
  obtain ⟨n,d,p,rfl⟩:=s.shape
  exact ⟨_,_,_,rfl,fun xp jP=>s.le jP⟩
 have lift:∀u:View,V.Le u->∀V2:View,u.Le V2->V.Le V2:=fun _ h _ h'=>h.trans h'
 rcases hx with ⟨ex,wx⟩|⟨a,b,p,n,c,p',n',c',ex,-,-,-,-,-,wx⟩
 ·rcases hy with ⟨J,wy⟩|⟨a,b,p,n,c,p',n',c',J,-,-,-,-,-,wy⟩
  ·simp only [Value.agg.injEq,Array.mk.injEq,List.cons.injEq,Value.int.injEq,Value.pointer.injEq,true_and,and_true] at ex J
   obtain ⟨rfl,rfl,rfl⟩:=ex
   obtain ⟨rfl,rfl,rfl⟩:=J
   obtain ⟨Lv,PM⟩:=wx
   obtain ⟨Lw,PN⟩:=wy
   have dx:=x.den_nz
   have dy:=y.den_nz
   have e1:i64.wrap ((x.den:Int)-1+1)=x.den:=by rw [i64w (by omega)];omega
   have e2:i64.wrap ((y.den:Int)-1+1)=y.den:=by rw [i64w (by omega)];omega
   refine iz _ _ _ _ _ _ V _ ⟨fun _=>⟨fun _ _=>True,⟨fun _=>⟨fun O=>⟨fun P u g=>?_,fun P=>?_⟩,fun O=>?_⟩,(fun h=>nomatch h)⟩,fun _ u g _=>⟨by trivial,fun V2 i=>gen V2 (g.trans i)⟩⟩,(fun h=>nomatch h)⟩
   ·have O:x.den=1:=by rw [beq_iff_eq] at O;omega
    have P:y.den=1:=by rw [beq_iff_eq] at P;omega
    rw [i64w (by omega)]
    refine (gj _ (by omega) (by omega)).mono ?_
    rintro r V2 i t
    have e:((x.num+y.num:Int):Rat)=x+y:=by
     rw [o,O,P]
     simp only [Nat.mul_one,Int.natCast_one,Int.mul_one]
     exact (mkRat_one _).symm
    rw [e] at t
    obtain ⟨n,d,p,rfl⟩:=t.shape
    exact ⟨_,_,_,rfl,fun V3 j=>t.le j⟩
   all_goals
    rw [e1,e2]
    refine fun V4 C=>(eE _ _ Lv (by omega)).mono ?_
    rintro r V5 z ⟨z1,rfl,a0⟩
    refine ⟨_,_,rfl,fun V6 K=>(eE _ _ Lw (by omega)).mono ?_⟩
    rintro r V7 E ⟨z2,rfl,a1⟩
    refine ⟨_,_,rfl,fun V8 L=>(eE _ _ (by omega) (by omega)).mono ?_⟩
    rintro r V9 F ⟨z3,rfl,a2⟩
    refine ⟨_,_,rfl,fun B=>⟨fun D=>⟨fun A=>⟨fun M=>⟨fun N U l=>?_,fun _=>⟨(),by and_intros<;>rfl,trivial⟩⟩,fun _=>⟨(),by and_intros<;>rfl,trivial⟩⟩,fun _=>⟨(),by and_intros<;>rfl,trivial⟩⟩,fun _=>⟨(),by and_intros<;>rfl,trivial⟩⟩,fun _=>⟨(),by and_intros<;>rfl,trivial⟩⟩
    rw [decide_eq_true_eq] at B D A M N
    have k1:=a0 B
    have k2:=a1 D
    have k3:=a2 A
    rw [←k1] at B
    rw [←k2] at D
    rw [←Int.natCast_mul,Int.natAbs_natCast] at A
    rw [←Int.natCast_mul] at k3
    rw [i64w (by omega)] at M N ⊢
    rw [k3]
    refine (kN _ _ (by omega) A (Nat.mul_ne_zero dx dy)).mono ?_
    rintro r W f t
    rw [k1,k2,←o] at t
    obtain ⟨n,d,p,rfl⟩:=t.shape
    exact ⟨_,_,_,rfl,fun V3 j=>t.le j⟩
  ·simp only [Value.agg.injEq,Array.mk.injEq,List.cons.injEq,Value.int.injEq,Value.pointer.injEq,true_and,and_true] at ex J
   obtain ⟨rfl,rfl,rfl⟩:=ex
   obtain ⟨rfl,rfl,rfl⟩:=J
   exact iz _ _ _ _ _ _ V _ ⟨fun _=>⟨fun _ _=>True,⟨(fun h=>nomatch h),fun _=>⟨(),by and_intros<;>rfl,trivial⟩⟩,fun _ u g _=>⟨by trivial,fun V2 i=>gen V2 (g.trans i)⟩⟩,(fun h=>nomatch h)⟩
 ·simp only [Value.agg.injEq,Array.mk.injEq,List.cons.injEq,Value.int.injEq,Value.pointer.injEq,true_and,and_true] at ex
  obtain ⟨rfl,rfl,rfl⟩:=ex
  exact iz _ _ _ _ _ _ V _ ⟨(fun h=>nomatch h),fun _=>gen⟩
end Go.Proofs.Tryz
