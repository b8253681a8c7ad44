import Derived.Test.YthpmdmkmfoaamaaGreatDoorS8
import Derived.Test.YthpmdmkmfoaamaaGreatDoorS6
set_option linter.unusedVariables false
open Go.IntKind (i64 u64 u32)
namespace Go.Proofs.Tryz
open Go.br Go.dS
theorem _root_.Go.br.RD.Nq {V:View}{p:OA}{n c:Nat}{ds:List Nat}(h:RD V p n c ds){i:Int}{K:Int->Prop}(j:Nat)(hj:i=j)(hn:j<ds.length)
  (hK:K ((ds[j]:Nat):Int)):(p.isSome=true)/\(0<=i/\i<(n:Int))/\∃x:Int,(∃a,af p j=some a/\V.at a (.int .u32 x))/\K x:=by
 have:=h.rd (K:=K) j hj hn hK
 subst hj
 simpa only [Int.toNat_natCast,Nat.mul_one] using this
theorem Dg {us:List Nat}{rest:List Value}{k:Nat}(h:k<us.length):(aA us++rest)[0+k*1]?=some (.int .u32 (us[k]:Int)):=by
 rw [Nat.zero_add,Nat.mul_one,List.getElem?_append_left (by simpa using h)]
 exact dP h
theorem nT {us:List Nat}{rest:List Value}{k x:Nat}(h:k<us.length):(aA us++rest).set (0+k*1) (.int .u32 (x:Int))=aA (us.set k x)++rest:=by
 rw [Nat.zero_add,Nat.mul_one,List.set_append_left _ _ (by simpa using h),aY]
theorem vK {y m t s:Nat}(hm:(ag y).length=m)(h0:0<m)(ht:t=(ag y)[m-1]'(by omega))(hs:s=32-bz t) :
  s<32/\(ag (y*2^s)).length=m/\2147483648*4294967296^(m-1)<=y*2^s:=by
 have htd:t<4294967296:=by rw [ht];exact (aB y).get _
 have htn:t≠0:=by rw [ht];have:=(eF y).last (by omega);simpa [hm] using this
 have g0:=kJ t
 have g1:=kG htn
 have hbl:bz t<=32:=fI.2 (by omega)
 have hbp:0<bz t:=by unfold bz;rw [if_neg htn];omega
 have e:=eh (ag y) (m-1) (by omega)
 rw [ae,List.drop_of_length_le (by omega),←ht] at e
 simp only [cS,Nat.mul_zero,Nat.add_zero] at e
 have hlt:=dp ((aB y).take (m-1))
 rw [List.length_take,Nat.min_eq_left (by omega)] at hlt
 have h1:2^bz t*2^s=4294967296:=by rw [←Nat.pow_add,hs,Nat.add_sub_cancel' hbl]
 have h2:2^(bz t-1)*2^s=2147483648:=by rw [←Nat.pow_add,show bz t-1+s=31 from by omega]
 have h3:2147483648*4294967296^(m-1)<=y*2^s:=by
  have:2^(bz t-1)*2^s*4294967296^(m-1)<=t*2^s*4294967296^(m-1):=Nat.mul_le_mul_right _ (Nat.mul_le_mul_right _ g1)
  rw [h2] at this
  have h4:t*2^s*4294967296^(m-1)=4294967296^(m-1)*t*2^s:=by grind
  have h5:4294967296^(m-1)*t*2^s<=y*2^s:=Nat.mul_le_mul_right _ (by omega)
  omega
 refine ⟨by omega,?_,h3⟩
 have h6:y*2^s<4294967296^m:=by
  have a1:y<4294967296^(m-1)*(t+1):=by rw [Nat.mul_add,Nat.mul_one];omega
  have a2:4294967296^(m-1)*(t+1)*2^s<=4294967296^(m-1)*2^bz t*2^s:=Nat.mul_le_mul_right _ (Nat.mul_le_mul_left _ g0)
  have a3:4294967296^(m-1)*2^bz t*2^s=4294967296^m:=by
   rw [Nat.mul_assoc,h1,←Nat.pow_succ,Nat.succ_eq_add_one,Nat.sub_add_cancel h0]
  have a4:y*2^s<4294967296^(m-1)*(t+1)*2^s:=Nat.mul_lt_mul_of_pos_right a1 (Nat.two_pow_pos s)
  omega
 have b1:=aC.2 h6
 have b2:m-1<(ag (y*2^s)).length:=by
  rw [mz]
  have:1*4294967296^(m-1)<=2147483648*4294967296^(m-1):=Nat.mul_le_mul_right _ (by omega)
  omega
 omega
theorem JS {us:List Nat}{k:Nat}(h:k+2<us.length)(hz:val (us.drop (k+3))=0) :
  val us=((us[k+2]*4294967296+us[k+1])*4294967296+us[k])*4294967296^k+val (us.take k):=by
 have h1:=eh us k (by omega)
 rw [List.drop_eq_getElem_cons (i:=k+1) (by omega),List.drop_eq_getElem_cons (i:=k+1+1) (by omega),aT,aT] at h1
 rw [show k+1+1+1=k+3 from rfl,hz] at h1
 rw [h1]
 grind
theorem JR {us:List Nat}{k:Nat}(h:us.length=k+2):val us=(us[k+1]*4294967296+us[k])*4294967296^k+val (us.take k):=by
 have h1:=eh us k (by omega)
 rw [List.drop_eq_getElem_cons (i:=k+1) (by omega),aT,List.drop_of_length_le (by omega),cS] at h1
 rw [h1]
 grind
theorem aU (us:List Nat)(k:Nat)(h:k<=us.length):val us=val (us.take k)+4294967296^k*val (us.drop k):=by
 conv=>lhs;rw [←List.take_append_drop k us]
 rw [ct,List.length_take,Nat.min_eq_left h]
theorem eJ {us:List Nat}{k:Nat}(h:val us<4294967296^k)(hk:k<=us.length):val (us.drop k)=0:=by
 have:=aU us k hk
 rcases Nat.eq_zero_or_pos (val (us.drop k)) with e|e
 ·exact e
 ·have:4294967296^k*1<=4294967296^k*val (us.drop k):=Nat.mul_le_mul_left _ e
  omega
theorem _root_.Go.br.RD.HN {V:View}{p:OA}{n c:Nat}{ds:List Nat}(h:RD V p n c ds){i:Int}{K:Int->Prop}(j:Nat)(hj:i=j){d:Nat}(hn:ds[j]?=some d)
  (hK:K (d:Int)):(p.isSome=true)/\(0<=i/\i<(n:Int))/\∃x:Int,(∃a,af p (i.toNat*1)=some a/\V.at a (.int .u32 x))/\K x:=by
 obtain ⟨h1,h2⟩:=List.getElem?_eq_some_iff.1 hn
 exact h.rd j hj h1 (by rw [h2];exact hK)
theorem fA {us:List Nat}{rest:List Value}{k d:Nat}(h:us[k]?=some d):(aA us++rest)[0+k*1]?=some (.int .u32 (d:Int)):=by
 obtain ⟨h1,h2⟩:=List.getElem?_eq_some_iff.1 h
 rw [Dg h1,h2]
structure uw (us vs:List Nat) (j G i b c:Nat) (fs:List Nat):Prop where
 b1:b<=1
 c1:c<4294967296
 hi:i<=vs.length
 len:fs.length=us.length
 cD:bD fs
 dr:fs.drop (j+i)=us.drop (j+i)
 tk:fs.take j=us.take j
 eq:val (fs.take (j+i))+4294967296^j*(G*val (vs.take i))=val (us.take (j+i))+4294967296^j*4294967296^i*(c+b)
theorem uw.read {us vs:List Nat}{j G i b c:Nat}{fs:List Nat}(h:uw us vs j G i b c fs)(hj:j+i<us.length):∃u,fs[j+i]?=some u/\us[j+i]?=some u:=by
 have:=congrArg (fun l=>l[0]?) h.dr
 simp only [List.getElem?_drop,Nat.add_zero] at this
 exact ⟨us[j+i],by rw [this,List.getElem?_eq_getElem hj],List.getElem?_eq_getElem hj⟩
theorem uw.step {us vs:List Nat}{j G i b c:Nat}{fs:List Nat}(h:uw us vs j G i b c fs)(hG:G<4294967296)(hdv:bD vs)(zu:bD us)(hi:i<vs.length)(hj:j+i<us.length) :
  ∃u d ob od cn cb:Nat,vs[i]?=some d/\fs[j+i]?=some u/\u64.wrap ((c:Int)+u64.wrap ((G:Int)*u64.wrap (d:Int)))=(cn:Int)/\(cn:Int).fdiv (2^32)=(cb:Int) /\
   (u64.wrap (u64.wrap (u64.wrap (u:Int)-aX .and .u64 (cn:Int) 4294967295)-(b:Int))).fdiv (2^63)=(ob:Int) /\
   u32.wrap (u64.wrap (u64.wrap (u64.wrap (u:Int)-aX .and .u64 (cn:Int) 4294967295)-(b:Int)))=(od:Int)/\od<4294967296 /\
   uw us vs j G (i+1) ob cb (fs.set (j+i) od):=by
 obtain ⟨u,hu1,hu2⟩:=h.read hj
 obtain ⟨hb1,hc1,-,hfs,hdf,Ep,hft,hfe⟩:=h
 have hdd:=hdv.get (i:=i) hi
 have Ga:u<4294967296:=zu u (List.mem_of_getElem? hu2)
 have hgd:G*vs[i]<=4294967295*4294967295:=Nat.mul_le_mul (by omega) (by omega)
 refine ⟨u,vs[i],?_⟩
 have hcn:u64.wrap ((c:Int)+u64.wrap ((G:Int)*u64.wrap ((vs[i]:Nat):Int)))=((c+G*vs[i]:Nat):Int):=by
  rw [aJ (x:=((vs[i]:Nat):Int)) (by omega),←Int.natCast_mul]
  generalize G*vs[i]=gd at *
  rw [aJ (x:=((gd:Nat):Int)) (by omega),aJ (by omega)];omega
 have hst:=sD (x:=((u:Int)-((c+G*vs[i])%4294967296:Nat)-b)%18446744073709551616) hfe hc1 hb1 Ga rfl
 have hand:aX .and .u64 ((c+G*vs[i]:Nat):Int) 4294967295=(((c+G*vs[i])%4294967296:Nat):Int):=yo _ (by omega)
 have hxw:u64.wrap (u64.wrap (u64.wrap (u:Int)-(((c+G*vs[i])%4294967296:Nat):Int))-(b:Int))=((u:Int)-((c+G*vs[i])%4294967296:Nat)-b)%18446744073709551616:=by
  rw [aJ (x:=(u:Int)) (by omega),lV,lV]
  omega
 have hcb:(c+G*vs[i]) / 4294967296<4294967296:=by
  generalize G*vs[i]=gd at *;omega
 generalize ((u:Int)-((c+G*vs[i])%4294967296:Nat)-b)%18446744073709551616=xx at *
 obtain ⟨g1,g2,g3,g4⟩:=hst
 obtain ⟨ob,F2⟩:∃ob:Nat,xx / 9223372036854775808=ob:=⟨(xx / 9223372036854775808).toNat,by omega⟩
 obtain ⟨od,hod⟩:∃od:Nat,xx%4294967296=od:=⟨(xx%4294967296).toNat,by omega⟩
 rw [F2,hod] at g4
 simp only [Int.toNat_natCast] at g4
 have xj:od<4294967296:=by omega
 have Ev:ob<=1:=by omega
 refine ⟨ob,od,c+G*vs[i],(c+G*vs[i]) / 4294967296,List.getElem?_eq_getElem hi,hu1,hcn,?_,?_,?_,xj,Ev,hcb,hi,by simpa using hfs,hdf.set _ _ xj,?_,?_,?_⟩
 ·rw [dK]
 ·rw [hand,hxw,BW,F2]
 ·rw [hand,hxw,eX,hod]
 ·rw [List.drop_set_of_lt (by omega)]
  have:=congrArg (List.drop 1) Ep
  simpa [List.drop_drop,Nat.add_comm,Nat.add_assoc,Nat.add_left_comm] using this
 ·rw [List.take_set,List.set_eq_of_length_le (by simp;omega)];exact hft
 ·have hue:us[j+i]=u:=by rw [List.getElem?_eq_getElem hj] at hu2;exact Option.some.inj hu2
  rw [show j+(i+1)=j+i+1 from by omega,aF _ _ _ (by omega),ar us (j+i) (by omega),ar vs i hi,Nat.pow_succ,Nat.pow_add,hue]
  exact g4
theorem AH {ks us:List Nat}{j t a:Nat}(h1:ks.take j=us.take j)(hk:j<=ks.length)(hu:j<=us.length)(h:val ks+4294967296^j*a=val us+4294967296^j*t):val (ks.drop j)+a=val (us.drop j)+t:=by
 have a3:=aU ks j hk
 have a4:=aU us j hu
 rw [h1] at a3
 have:4294967296^j*(val (ks.drop j)+a)=4294967296^j*(val (us.drop j)+t):=by rw [Nat.mul_add,Nat.mul_add];omega
 exact Nat.eq_of_mul_eq_mul_left (Nat.pow_pos (by omega)) this
theorem uw.fin {us vs:List Nat}{j G b c:Nat}{fs:List Nat}(h:uw us vs j G vs.length b c fs)(zu:bD us)(hj:j+vs.length<us.length)(hz:val (us.drop (j+vs.length+1))=0) :
  ∃u ob od:Nat,fs[j+vs.length]?=some u /\
   (u64.wrap (u64.wrap (u64.wrap (u:Int)-(c:Int))-(b:Int))).fdiv (2^63)=(ob:Int) /\
   u32.wrap (u64.wrap (u64.wrap (u64.wrap (u:Int)-(c:Int))-(b:Int)))=(od:Int)/\od<4294967296/\ob<=1 /\
   bD (fs.set (j+vs.length) od)/\(fs.set (j+vs.length) od).length=us.length/\(fs.set (j+vs.length) od).take j=us.take j/\val ((fs.set (j+vs.length) od).drop (j+vs.length+1))=0 /\
   val ((fs.set (j+vs.length) od).drop j)+G*val vs=val (us.drop j)+4294967296^(vs.length+1)*ob:=by
 obtain ⟨u,hu1,hu2⟩:=h.read hj
 obtain ⟨hb1,hc1,-,hfs,hdf,Ep,hft,hfe⟩:=h
 have Ga:u<4294967296:=zu u (List.mem_of_getElem? hu2)
 have hue:us[j+vs.length]=u:=by rw [List.getElem?_eq_getElem hj] at hu2;exact Option.some.inj hu2
 rw [List.take_length] at hfe
 have hst:=sD (g:=G) (d:=0) (Y:=val vs) (x:=((u:Int)-((c+G*0)%4294967296:Nat)-b)%18446744073709551616) hfe hc1 hb1 Ga rfl
 simp only [Nat.mul_zero,Nat.add_zero] at hst
 rw [Nat.mod_eq_of_lt hc1,Nat.div_eq_of_lt hc1,Nat.zero_add] at hst
 have hxw:u64.wrap (u64.wrap (u64.wrap (u:Int)-(c:Int))-(b:Int))=((u:Int)-(c:Int)-b)%18446744073709551616:=by
  rw [aJ (x:=(u:Int)) (by omega),lV,lV]
  omega
 generalize ((u:Int)-(c:Int)-b)%18446744073709551616=xx at *
 obtain ⟨g1,g2,g3,g4⟩:=hst
 obtain ⟨ob,F2⟩:∃ob:Nat,xx / 9223372036854775808=ob:=⟨(xx / 9223372036854775808).toNat,by omega⟩
 obtain ⟨od,hod⟩:∃od:Nat,xx%4294967296=od:=⟨(xx%4294967296).toNat,by omega⟩
 rw [F2,hod] at g4
 simp only [Int.toNat_natCast] at g4
 have xj:od<4294967296:=by omega
 have Ev:ob<=1:=by omega
 obtain ⟨ks,hks⟩:∃ks,ks=fs.set (j+vs.length) od:=⟨_,rfl⟩
 refine ⟨u,ob,od,hu1,by rw [hxw,BW,F2],by rw [hxw,eX,hod],xj,Ev,?_⟩
 rw [←hks]
 have hkl:ks.length=us.length:=by rw [hks];simpa using hfs
 have hkd:bD ks:=by rw [hks];exact hdf.set _ _ xj
 have hkt:ks.take j=us.take j:=by rw [hks,List.take_set,List.set_eq_of_length_le (by simp;omega)];exact hft
 have hkz:ks.drop (j+vs.length+1)=us.drop (j+vs.length+1):=by
  rw [hks,List.drop_set_of_lt (by omega)]
  have:=congrArg (List.drop 1) Ep
  simpa [List.drop_drop,Nat.add_comm,Nat.add_assoc,Nat.add_left_comm] using this
 refine ⟨hkd,hkl,hkt,by rw [hkz];exact hz,AH hkt (by omega) (by omega) ?_⟩
 have a1:=aU ks (j+vs.length+1) (by omega)
 have a2:=aU us (j+vs.length+1) (by omega)
 have a5:val (ks.take (j+vs.length+1))=val (fs.take (j+vs.length))+4294967296^j*4294967296^vs.length*od:=by rw [hks,aF _ _ _ (by omega),Nat.pow_add]
 have a6:val (us.take (j+vs.length+1))=val (us.take (j+vs.length))+4294967296^j*4294967296^vs.length*u:=by rw [ar us (j+vs.length) (by omega),Nat.pow_add,hue]
 rw [hkz,hz,Nat.mul_zero,Nat.add_zero] at a1
 rw [hz,Nat.mul_zero,Nat.add_zero] at a2
 have e9:4294967296^j*(4294967296^vs.length*4294967296)*ob=4294967296^j*(4294967296^(vs.length+1)*ob):=by rw [Nat.pow_succ];grind
 rw [e9] at g4
 omega
structure uq (ks vs:List Nat) (j i c:Nat) (gs:List Nat):Prop where
 c1:c<=1
 hi:i<=vs.length
 len:gs.length=ks.length
 cD:bD gs
 dr:gs.drop (j+i)=ks.drop (j+i)
 tk:gs.take j=ks.take j
 eq:val (gs.take (j+i))+4294967296^j*4294967296^i*c=val (ks.take (j+i))+4294967296^j*val (vs.take i)
theorem uq.read {ks vs:List Nat}{j i c:Nat}{gs:List Nat}(h:uq ks vs j i c gs)(hj:j+i<ks.length):∃u,gs[j+i]?=some u/\ks[j+i]?=some u:=by
 have:=congrArg (fun l=>l[0]?) h.dr
 simp only [List.getElem?_drop,Nat.add_zero] at this
 exact ⟨ks[j+i],by rw [this,List.getElem?_eq_getElem hj],List.getElem?_eq_getElem hj⟩
theorem uq.step {ks vs:List Nat}{j i c:Nat}{gs:List Nat}(h:uq ks vs j i c gs)(hdv:bD vs)(hdk:bD ks)(hi:i<vs.length)(hj:j+i<ks.length) :
  ∃u d od cn cb:Nat,vs[i]?=some d/\gs[j+i]?=some u/\u64.wrap ((c:Int)+u64.wrap (u64.wrap (u:Int)+u64.wrap (d:Int)))=(cn:Int)/\(cn:Int).fdiv (2^32)=(cb:Int) /\
   u32.wrap (cn:Int)=(od:Int)/\uq ks vs j (i+1) cb (gs.set (j+i) od):=by
 obtain ⟨u,hu1,hu2⟩:=h.read hj
 obtain ⟨hc1,-,hfs,hdf,Ep,hft,hfe⟩:=h
 have hdd:=hdv.get (i:=i) hi
 have Ga:u<4294967296:=hdk u (List.mem_of_getElem? hu2)
 have hue:ks[j+i]=u:=by rw [List.getElem?_eq_getElem hj] at hu2;exact Option.some.inj hu2
 obtain ⟨t5,MN⟩:∃t5,t5=c+u+vs[i]:=⟨_,rfl⟩
 have hst:=rz hfe MN
 have hcn:u64.wrap ((c:Int)+u64.wrap (u64.wrap (u:Int)+u64.wrap ((vs[i]:Nat):Int)))=(t5:Int):=by
  rw [aJ (x:=((vs[i]:Nat):Int)) (by omega),aJ (x:=(u:Int)) (by omega),aJ (x:=(u:Int)+_) (by omega),aJ (by omega)]
  omega
 refine ⟨u,vs[i],t5%4294967296,t5,t5 / 4294967296,List.getElem?_eq_getElem hi,hu1,hcn,by rw [dK],by rw [eX];omega,by omega,hi,by simpa using hfs,hdf.set _ _ (by omega),?_,?_,?_⟩
 ·rw [List.drop_set_of_lt (by omega)]
  have:=congrArg (List.drop 1) Ep
  simpa [List.drop_drop,Nat.add_comm,Nat.add_assoc,Nat.add_left_comm] using this
 ·rw [List.take_set,List.set_eq_of_length_le (by simp;omega)];exact hft
 ·rw [show j+(i+1)=j+i+1 from by omega,aF _ _ _ (by omega),ar ks (j+i) (by omega),ar vs i hi,Nat.pow_succ,Nat.pow_add,hue]
  exact hst
theorem uq.fin {ks vs:List Nat}{j c:Nat}{gs:List Nat}(h:uq ks vs j vs.length c gs)(hdk:bD ks)(hj:j+vs.length<ks.length)(hz:val (ks.drop (j+vs.length+1))=0) :
  ∃u od kp:Nat,gs[j+vs.length]?=some u/\u32.wrap ((u:Int)+u32.wrap (c:Int))=(od:Int)/\kp<=1 /\
   bD (gs.set (j+vs.length) od)/\(gs.set (j+vs.length) od).length=ks.length/\(gs.set (j+vs.length) od).take j=ks.take j/\val ((gs.set (j+vs.length) od).drop (j+vs.length+1))=0 /\
   val ((gs.set (j+vs.length) od).drop j)+4294967296^(vs.length+1)*kp=val (ks.drop j)+val vs:=by
 obtain ⟨u,hu1,hu2⟩:=h.read hj
 obtain ⟨hc1,-,hfs,hdf,Ep,hft,hfe⟩:=h
 have Ga:u<4294967296:=hdk u (List.mem_of_getElem? hu2)
 have hue:ks[j+vs.length]=u:=by rw [List.getElem?_eq_getElem hj] at hu2;exact Option.some.inj hu2
 rw [List.take_length] at hfe
 have hst:=rz (d:=0) (u:=u) (Y:=val vs) (t:=c+u) hfe (by omega)
 simp only [Nat.mul_zero,Nat.add_zero] at hst
 have xj:(c+u)%4294967296<4294967296:=by omega
 have hkp:(c+u) / 4294967296<=1:=by omega
 have hw:u32.wrap ((u:Int)+u32.wrap (c:Int))=(((c+u)%4294967296:Nat):Int):=by
  rw [kY (x:=(c:Int)) (by omega),eX];omega
 generalize (c+u)%4294967296=od at *
 generalize (c+u) / 4294967296=kp at *
 obtain ⟨hs,Fa⟩:∃hs,hs=gs.set (j+vs.length) od:=⟨_,rfl⟩
 refine ⟨u,od,kp,hu1,hw,hkp,?_⟩
 rw [←Fa]
 have hkl:hs.length=ks.length:=by rw [Fa];simpa using hfs
 have hkd:bD hs:=by rw [Fa];exact hdf.set _ _ xj
 have hkt:hs.take j=ks.take j:=by rw [Fa,List.take_set,List.set_eq_of_length_le (by simp;omega)];exact hft
 have hkz:hs.drop (j+vs.length+1)=ks.drop (j+vs.length+1):=by
  rw [Fa,List.drop_set_of_lt (by omega)]
  have:=congrArg (List.drop 1) Ep
  simpa [List.drop_drop,Nat.add_comm,Nat.add_assoc,Nat.add_left_comm] using this
 refine ⟨hkd,hkl,hkt,by rw [hkz];exact hz,AH hkt (by omega) (by omega) ?_⟩
 have a1:=aU hs (j+vs.length+1) (by omega)
 have a2:=aU ks (j+vs.length+1) (by omega)
 have a5:val (hs.take (j+vs.length+1))=val (gs.take (j+vs.length))+4294967296^j*4294967296^vs.length*od:=by rw [Fa,aF _ _ _ (by omega),Nat.pow_add]
 have a6:val (ks.take (j+vs.length+1))=val (ks.take (j+vs.length))+4294967296^j*4294967296^vs.length*u:=by rw [ar ks (j+vs.length) (by omega),Nat.pow_add,hue]
 rw [hkz,hz,Nat.mul_zero,Nat.add_zero] at a1
 rw [hz,Nat.mul_zero,Nat.add_zero] at a2
 have e9:4294967296^j*(4294967296^vs.length*4294967296)*kp=4294967296^j*(4294967296^(vs.length+1)*kp):=by rw [Nat.pow_succ];grind
 rw [e9] at hst
 omega
structure GK (v1 v2 v' u0 u1 u2 t' B T Y:Nat):Prop where
 hY:Y=(v1*4294967296+v2)*B+v'
 hT:T=((u0*4294967296+u1)*4294967296+u2)*B+t'
 sg:v'<B
 vd:t'<B
 JT:2147483648<=v1
 Lo:v1<4294967296
 JU:v2<4294967296
 Nv:u0<4294967296
 Nw:u1<4294967296
 Ln:u2<4294967296
 lt:T<4294967296*Y
structure GI (v1 f T Y G ρ:Nat):Prop where
 r:ρ<4294967296
 g:G<=4294967297
 eq:G*v1+ρ=f
 lt:T<(G+1)*Y
structure GF (T Y G:Nat):Prop where
 g:G<4294967296
 lt:T<(G+1)*Y
 gt:G*Y<T+Y
section
variable {v1 v2 v' u0 u1 u2 t' B T Y G ρ:Nat}
theorem GK.start (h:GK v1 v2 v' u0 u1 u2 t' B T Y):GI v1 (u0*4294967296+u1) T Y ((u0*4294967296+u1) / v1) ((u0*4294967296+u1)%v1):=by
 have htop:=r_ h.hY h.hT h.sg h.lt
 have h1:=h.JT
 have h2:=h.Lo
 have h3:=h.JU
 have Ae:=Nat.div_add_mod (u0*4294967296+u1) v1
 have hml:=Nat.mod_lt (u0*4294967296+u1) (show 0<v1 by omega)
 refine ⟨by omega,?_,by rw [Nat.mul_comm];exact Ae,?_⟩
 ·have:(u0*4294967296+u1) / v1<4294967298:=by
   rw [Nat.div_lt_iff_lt_mul (by omega)];omega
  omega
 ·rw [Nat.mul_comm] at Ae
  exact AR h.hY h.hT h.vd h.Ln Ae hml
theorem GK.Dw (h:GK v1 v2 v' u0 u1 u2 t' B T Y)(hG:4294967296<=G):T<G*Y:=Nat.lt_of_lt_of_le h.lt (Nat.mul_le_mul_right _ hG)
theorem GK.dec (h:GK v1 v2 v' u0 u1 u2 t' B T Y)(hi:GI v1 (u0*4294967296+u1) T Y G ρ)(hd:ρ*4294967296+u2<G*v2):T<G*Y:=zo h.hY h.hT h.vd hi.eq hd
theorem GK.last (h:GK v1 v2 v' u0 u1 u2 t' B T Y)(hi:GI v1 (u0*4294967296+u1) T Y G ρ)(hG:G<4294967296)(hd:G*v2<=ρ*4294967296+u2):GF T Y G:=
 ⟨hG,hi.lt,rZ h.hY h.hT h.sg (by have:=h.JT;omega) (by omega) hi.eq hd (by omega)⟩
theorem GK.down (h:GK v1 v2 v' u0 u1 u2 t' B T Y)(hi:GI v1 (u0*4294967296+u1) T Y G ρ)(h1:T<G*Y):1<=G/\(G-1)*v1+(ρ+v1)=u0*4294967296+u1/\T<(G-1+1)*Y:=by
 have hG1:1<=G:=by
  rcases Nat.eq_zero_or_pos G with e0|e0
  ·subst e0;omega
  ·exact e0
 have:=hi.eq
 refine ⟨hG1,?_,by rw [Nat.sub_add_cancel hG1];exact h1⟩
 have:G*v1=(G-1)*v1+v1:=by conv=>lhs;rw [←Nat.sub_add_cancel hG1,Nat.add_mul,Nat.one_mul]
 omega
theorem GK.Dy (h:GK v1 v2 v' u0 u1 u2 t' B T Y)(hi:GI v1 (u0*4294967296+u1) T Y G ρ)(h1:T<G*Y)(h2:4294967296<=ρ+v1):1<=G/\GF T Y (G-1):=by
 obtain ⟨hG1,Es,hlt⟩:=h.down hi h1
 have htop:=r_ h.hY h.hT h.sg h.lt
 have g1:=h.JU
 have g2:=h.JT
 have g3:=hi.g
 have h3:G-1<4294967296:=by
  rcases Nat.lt_or_ge (G-1) 4294967296 with hc|hc
  ·exact hc
  ·have:=Nat.mul_le_mul_right v1 hc
   omega
 refine ⟨hG1,h3,hlt,rZ h.hY h.hT h.sg (by omega) (by omega) Es ?_ (by omega)⟩
 have h4:(G-1)*v2<=4294967295*4294967295:=Nat.mul_le_mul (by omega) (by omega)
 omega
theorem GK.Dz (h:GK v1 v2 v' u0 u1 u2 t' B T Y)(hi:GI v1 (u0*4294967296+u1) T Y G ρ)(h1:T<G*Y)(h2:ρ+v1<4294967296):1<=G/\GI v1 (u0*4294967296+u1) T Y (G-1) (ρ+v1):=by
 obtain ⟨hG1,Es,hlt⟩:=h.down hi h1
 have g3:=hi.g
 exact ⟨hG1,h2,by omega,Es,hlt⟩
theorem GK.words (h:GK v1 v2 v' u0 u1 u2 t' B T Y) :
  aX .or .u64 (u64.wrap (u64.wrap (u0:Int)*2^32)) (u64.wrap (u1:Int))=((u0*4294967296+u1:Nat):Int) /\
  u64.wrap (((u0*4294967296+u1:Nat):Int).tdiv (v1:Int))=(((u0*4294967296+u1) / v1:Nat):Int) /\
  ((u0*4294967296+u1:Nat):Int).tmod (v1:Int)=(((u0*4294967296+u1)%v1:Nat):Int):=by
 have h0:=h.Nv
 have h1:=h.Nw
 have e3:((2:Int)^32)=4294967296:=by decide
 refine ⟨?_,?_,?_⟩
 ·rw [e3,aJ (x:=(u0:Int)) (by omega),aJ (x:=(u1:Int)) (by omega),aJ (by omega),vv _ _ h0 h1];omega
 ·rw [Int.tdiv_eq_ediv_of_nonneg (by omega),←Int.natCast_ediv]
  have h9:(u0*4294967296+u1) / v1<=u0*4294967296+u1:=Nat.div_le_self _ _
  generalize (u0*4294967296+u1) / v1=qq at *
  rw [aJ (by omega)]
 ·rw [Int.tmod_eq_emod_of_nonneg (by omega),←Int.natCast_emod]
theorem GK.E2 (h:GK v1 v2 v' u0 u1 u2 t' B T Y)(hi:GI v1 (u0*4294967296+u1) T Y G ρ) :
  u64.wrap ((G:Int)*(v2:Int))=((G*v2:Nat):Int)/\aX .or .u64 (u64.wrap ((ρ:Int)*2^32)) (u64.wrap (u2:Int))=((ρ*4294967296+u2:Nat):Int) /\
  u64.wrap ((ρ:Int)+v1)=((ρ+v1:Nat):Int)/\(1<=G->u64.wrap ((G:Int)-1)=((G-1:Nat):Int)):=by
 have h0:=h.Ln
 have h1:=hi.r
 have h2:=hi.g
 have h3:=h.JU
 have h4:=h.Lo
 have e3:((2:Int)^32)=4294967296:=by decide
 refine ⟨?_,?_,?_,?_⟩
 ·have h4:G*v2<=4294967297*4294967295:=Nat.mul_le_mul h2 (by omega)
  rw [←Int.natCast_mul,aJ (by omega)]
 ·rw [e3,aJ (x:=(ρ:Int)*4294967296) (by omega),aJ (by omega),vv _ _ h1 h0];omega
 ·rw [aJ (by omega)];omega
 ·intro h;rw [aJ (by omega)];omega
end
end Go.Proofs.Tryz
namespace Go.Proofs.Tryz
open Go.br Go.dS
structure OI (X Y n n8:Nat) (j:Int) (us qs:List Nat):Prop where
 j0:-1<=j
 j1:j<(n+1-n8:Nat)
 ul:us.length=n+1
 ud:bD us
 ql:qs.length=n+1-n8
 qd:bD qs
 eq:X=val us+Y*(4294967296^(j+1).toNat*val (qs.drop (j+1).toNat))
 lt:val (us.drop (j+1).toNat)<Y
structure DK (Y n8 k v1 v2:Nat):Prop where
 IM:n8=k+2
 len:(ag Y).length=n8
 g1:(ag Y)[k+1]?=some v1
 g2:(ag Y)[k]?=some v2
 l1:2147483648<=v1
 u1:v1<4294967296
 u2:v2<4294967296
 eq:Y=(v1*4294967296+v2)*4294967296^k+val ((ag Y).take k)
 lt:val ((ag Y).take k)<4294967296^k
 top:Y<4294967296^n8
theorem DK.of {Y n8:Nat}(hl:(ag Y).length=n8)(h2:2<=n8)(ht:2147483648*4294967296^(n8-1)<=Y):∃k v1 v2,DK Y n8 k v1 v2:=by
 obtain ⟨k,hk⟩:∃k,n8=k+2:=⟨n8-2,by omega⟩
 have hYs:=JR (us:=ag Y) (k:=k) (by omega)
 rw [ae] at hYs
 have sg:=dp ((aB Y).take k)
 rw [List.length_take,Nat.min_eq_left (by omega)] at sg
 have IC:=(aB Y).get (i:=k+1) (by omega)
 have ID:=(aB Y).get (i:=k) (by omega)
 have hv1:2147483648<=(ag Y)[k+1]:=by
  rcases Nat.lt_or_ge (ag Y)[k+1] 2147483648 with hc|hc
  ·exfalso
   have a1:((ag Y)[k+1]*4294967296+(ag Y)[k])+1<=2147483648*4294967296:=by omega
   have a2:=Nat.mul_le_mul_right (4294967296^k) a1
   rw [Nat.add_mul,Nat.one_mul] at a2
   have a3:2147483648*4294967296^(k+1)=2147483648*4294967296*4294967296^k:=by rw [Nat.pow_succ];grind
   rw [show n8-1=k+1 from by omega,a3] at ht
   omega
  ·exact hc
 exact ⟨k,_,_,hk,hl,List.getElem?_eq_getElem _,List.getElem?_eq_getElem _,hv1,IC,ID,hYs,sg,by rw [←hl,←aC];exact Nat.le_refl _⟩
theorem OI.start {x X Y n n8 s:Nat}(hX:X=x*2^s)(hx:(ag x).length=n)(hs:s<32)(IM:2<=n8)(hn:n8<=n)(hY:2147483648*4294967296^(n8-1)<=Y)(NY:(ag X).length<=n+1) :
  OI X Y n n8 (((n+1-n8:Nat):Int)-1) ((ag X++[0,0]).take (n+1)) (List.replicate (n+1-n8) 0):=by
 have MG:n<=(ag X).length:=by rw [←hx,hX];exact ax (Nat.le_mul_of_pos_right _ (Nat.two_pow_pos s))
 have F9:((ag X++[0,0]).take (n+1)).length=n+1:=by simp;omega
 have huv:val ((ag X++[0,0]).take (n+1))=X:=by
  have a1:val (ag X++[0,0])=X:=by rw [ct,ae];simp
  have a2:=aU (ag X++[0,0]) (n+1) (by simp;omega)
  have a3:val ((ag X++[0,0]).drop (n+1))=0:=by
   refine eJ ?_ (by simp;omega)
   rw [a1]
   exact aC.1 (by omega)
  rw [a3,Nat.mul_zero,Nat.add_zero,a1] at a2
  exact a2.symm
 have a0:(((n+1-n8:Nat):Int)-1+1).toNat=n+1-n8:=by omega
 refine ⟨by omega,by omega,F9,(bD.append.2 ⟨aB X,by simp [bD]⟩).take _,by simp,bD.rep _,?_,?_⟩
 ·rw [a0,List.drop_of_length_le (by simp),cS,Nat.mul_zero,Nat.mul_zero,Nat.add_zero,huv]
 ·rw [a0]
  have a1:=aU ((ag X++[0,0]).take (n+1)) (n+1-n8) (by omega)
  rw [huv] at a1
  have hXlt:X<4294967296^n*2^s:=by rw [hX];exact Nat.mul_lt_mul_of_pos_right (by rw [←hx];exact aC.1 (Nat.le_refl _)) (Nat.two_pow_pos s)
  have KL:2^s<=2^31:=Nat.pow_le_pow_right (by omega) (by omega)
  have a2:4294967296^n*2^s<=4294967296^(n+1-n8)*Y:=by
   have b1:4294967296^n=4294967296^(n+1-n8)*4294967296^(n8-1):=by rw [←Nat.pow_add];congr 1;omega
   rw [b1,Nat.mul_assoc]
   refine Nat.mul_le_mul_left _ ?_
   have b2:2^s*4294967296^(n8-1)<=2147483648*4294967296^(n8-1):=Nat.mul_le_mul_right _ (by omega)
   rw [Nat.mul_comm]
   omega
  have a3:4294967296^(n+1-n8)*val (((ag X++[0,0]).take (n+1)).drop (n+1-n8))<4294967296^(n+1-n8)*Y:=by omega
  exact Nat.lt_of_mul_lt_mul_left a3
theorem OI.body {X Y n n8 k v1 v2 j:Nat}{us qs:List Nat}(h:OI X Y n n8 (j:Int) us qs)(hd:DK Y n8 k v1 v2)(hjn:j+n8<=n) :
  val (us.drop (j+n8+1))=0/\∃u0 u1 u2 t',us[j+n8]?=some u0/\us[j+n8-1]?=some u1/\us[j+n8-2]?=some u2/\GK v1 v2 (val ((ag Y).take k)) u0 u1 u2 t' (4294967296^k) (val (us.drop j)) Y:=by
 obtain ⟨-,-,F_,zu,Ew,E_,CH,xl⟩:=h
 have hj2:((j:Int)+1).toNat=j+1:=by omega
 rw [hj2] at CH xl
 have hk:=hd.IM
 have Mu:=hd.top
 have hT1:val (us.drop j)=us[j]+4294967296*val (us.drop (j+1)):=by rw [List.drop_eq_getElem_cons (by omega),aT]
 have N1:=zu.get (i:=j) (by omega)
 have hz:val (us.drop (j+n8+1))=0:=by
  have:=eJ (us:=us.drop (j+1)) (k:=n8) (by omega) (by simp;omega)
  rw [List.drop_drop] at this
  rw [show j+n8+1=j+1+n8 from by omega];exact this
 have vd:=dp ((zu.drop j).take k)
 rw [List.length_take,List.length_drop,Nat.min_eq_left (by omega)] at vd
 refine ⟨hz,us[j+n8],us[j+n8-1],us[j+n8-2],val ((us.drop j).take k),List.getElem?_eq_getElem _,List.getElem?_eq_getElem _,List.getElem?_eq_getElem _,
  hd.eq,?_,hd.lt,vd,hd.l1,hd.u1,hd.u2,zu.get _,zu.get _,zu.get _,by omega⟩
 have:=JS (us:=us.drop j) (k:=k) (by simp;omega) (by rw [List.drop_drop,show j+(k+3)=j+n8+1 from by omega];exact hz)
 simp only [List.getElem_drop] at this
 rw [this]
 congr<;>omega
theorem OI.next {X Y n n8 j H:Nat}{us qs hs:List Nat}(h:OI X Y n n8 (j:Int) us qs)(hjn:j+n8<=n)(h1:hs.length=us.length)(My:bD hs)(h2:hs.take j=us.take j)(h3:val (hs.drop j)+H*Y=val (us.drop j))(h4:val (hs.drop j)<Y)(hH:H<4294967296) :
  OI X Y n n8 ((j:Int)-1) hs (qs.set j H):=by
 obtain ⟨-,hj1,F_,zu,Ew,E_,CH,xl⟩:=h
 have hj2:((j:Int)+1).toNat=j+1:=by omega
 have KS:((j:Int)-1+1).toNat=j:=by omega
 rw [hj2] at CH
 refine ⟨by omega,by omega,by omega,My,by simpa using Ew,E_.set _ _ hH,?_,by rw [KS];exact h4⟩
 have a1:=aU hs j (by omega)
 have a2:=aU us j (by omega)
 rw [h2] at a1
 rw [←h3] at a2
 rw [KS,List.drop_eq_getElem_cons (l:=qs.set j H) (by simp;omega),List.getElem_set_self,List.drop_set_of_lt (by omega),aT,CH,a1,a2,Nat.pow_succ]
 grind
theorem OI.done {x y X Y n n8 s:Nat}{us qs:List Nat}(h:OI X Y n n8 (-1) us qs)(hX:X=x*2^s)(hY:Y=y*2^s)(hn:n8<=n+1)(hYl:Y<4294967296^n8):val qs=x / y/\val (us.take n8) / 2^s=x%y:=by
 obtain ⟨-,-,F_,zu,Ew,E_,CH,xl⟩:=h
 have CH:X=val us+Y*val qs:=by simpa using CH
 have xl:val us<Y:=by simpa using xl
 have Mv:0<Y:=by omega
 have hzz:=eJ (us:=us) (k:=n8) (by omega) (by omega)
 have hut:val (us.take n8)=val us:=by
  have:=aU us n8 (by omega)
  rw [hzz,Nat.mul_zero,Nat.add_zero] at this
  exact this.symm
 constructor
 ·rw [←Nat.mul_div_mul_right x y (Nat.two_pow_pos s),←hX,←hY,CH,Nat.add_mul_div_left _ _ Mv,Nat.div_eq_of_lt xl,Nat.zero_add]
 ·have:x*2^s%(y*2^s)=val us:=by
   rw [←hX,←hY,CH,Nat.add_mul_mod_self_left,Nat.mod_eq_of_lt xl]
  rw [Nat.mul_mod_mul_right] at this
  rw [hut,←this,Nat.mul_div_cancel _ (Nat.two_pow_pos s)]
set_option maxHeartbeats 8000000 in
theorem wV {V:View}{p q:OA}{n c m e:Nat}{x y:Nat}(ha:RN V p n c x)(hb:RN V q m e y)(hn:n<=1099511627776)(hm2:2<=m)(hle:y<=x) :
  ab prog 235 #[.slice p n c,.slice q m e] V fun r V'=>∃p1 n1 c1 p2 n2 c2,r=.tuple #[.slice p1 n1 c1,.slice p2 n2 c2]/\RN V' p1 n1 c1 (x / y)/\RN V' p2 n2 c2 (x%y):=by
 have hla:=ha.len
 have hlb:=hb.len
 have hmn:m<=n:=by rw [hla,hlb];exact ax hle
 refine wa p n c q m e V _ ?_
 simp (disch:=omega) only [aD]
 refine hb.rd (m-1) (by omega) (by omega) fun V1 l1=>(dU _ ((aB y).get (by omega))).mono ?_
 rintro r V2 l2 rfl
 refine ⟨_,rfl,?_⟩
 obtain ⟨t,ht⟩:∃t,t=(ag y)[m-1]'(by omega):=⟨_,rfl⟩
 rw [←ht]
 have hbl:bz t<=32:=fI.2 (by rw [ht];exact (aB y).get _)
 obtain ⟨s,hs⟩:∃s,s=32-bz t:=⟨_,rfl⟩
 have es:(32-(bz t:Int))=(s:Int):=by omega
 obtain ⟨CL,hvl,I0⟩:=vK hlb.symm (by omega) ht hs
 rw [es,aJ (by omega)]
 clear es hbl
 intro V3 l3
 refine (rP (ha.le (l1.trans (l2.trans l3))) (by omega) s (by omega)).mono ?_
 rintro r V4 l4 ⟨p4,n4,c4,rfl,h4,hc4⟩
 rw [ae] at h4 hc4
 have hx0:x≠0:=by
  intro e0;subst e0
  rw [rS] at hla
  simp at hla;omega
 have hc4:c4=n+1:=by
  rcases hc4 with e0|e0
  ·exact absurd e0 hx0
  ·rw [e0,←hla,Nat.div_eq_of_lt CL]
 have hl4:=h4.len
 have hXlt:x*2^s<4294967296^n*2^s:=Nat.mul_lt_mul_of_pos_right (by rw [hla];exact aC.1 (Nat.le_refl _)) (Nat.two_pow_pos s)
 have KL:2^s<=2^31:=Nat.pow_le_pow_right (by omega) (by omega)
 have MG:n<=n4/\n4<=n+1:=by
  constructor
  ·rw [hl4,hla];exact ax (Nat.le_mul_of_pos_right _ (Nat.two_pow_pos s))
  ·rw [hl4,aC,Nat.pow_succ]
   have:4294967296^n*2^s<=4294967296^n*4294967296:=Nat.mul_le_mul_left _ (by omega)
   omega
 refine ⟨_,_,_,rfl,aA (ag (x*2^s)),h4.sl,by simp;omega,h4.cap,h4.zD,by omega,by omega,rfl,by simp [Value.oneCell'],?_⟩
 intro sp c7 Mw Mx
 refine ⟨⟨by omega,by omega⟩,fun V5 l5=>(rP (hb.le (l1.trans (l2.trans (l3.trans (l4.trans l5))))) (by omega) s (by omega)).mono ?_⟩
 rintro r V6 l6 ⟨p8,n8,c8,rfl,h8,-⟩
 rw [ae] at h8
 have KT:=h8.len
 rw [hvl] at KT
 subst KT
 refine ⟨_,_,_,rfl,?_⟩
 obtain ⟨k,v1,v2,CG⟩:=DK.of hvl hm2 I0
 have hk:=CG.IM
 have hv1:=CG.l1
 have MR:=CG.u1
 have MS:=CG.u2
 have Mr:=OI.start (Y:=y*2^s) rfl hla.symm CL hm2 hmn I0 (by omega)
 have w6:i64.wrap ((n8:Int)-1)=(n8:Int)-1:=aD (by omega)
 have w7:i64.wrap ((n8:Int)-2)=(n8:Int)-2:=aD (by omega)
 simp only [w6,w7]
 refine h8.HN (k+1) (by omega) CG.g1 (h8.HN k (by omega) CG.g2 ?_)
 have hn1:((n:Int)+1).toNat=n+1:=by omega
 have hn2:(((n+1:Nat):Int)-(n8:Int)).toNat=n+1-n8:=by omega
 have w1:i64.wrap ((n:Int)+1)=(n:Int)+1:=aD (by omega)
 have w2:u64.wrap (v1:Int)=v1:=aJ (by omega)
 have w3:u64.wrap (v2:Int)=v2:=aJ (by omega)
 have w4:i64.wrap (((n+1:Nat):Int)-(n8:Int))=((n+1:Nat):Int)-(n8:Int):=aD (by omega)
 have w5:i64.wrap (((n+1-n8:Nat):Int)-1)=((n+1-n8:Nat):Int)-1:=aD (by omega)
 simp only [hn1,w2,w3,w4,hn2,w5,bU]
 obtain ⟨tl,htl⟩:∃tl,tl=aA ((ag (x*2^s)++[0,0]).drop (n+1))++sp:=⟨_,rfl⟩
 have hrow:aA (ag (x*2^s))++([.int .u32 0,.int .u32 0]:List Value)++sp=aA ((ag (x*2^s)++[0,0]).take (n+1))++tl:=by
  rw [htl,←List.append_assoc,←mN,List.take_append_drop,mN];rfl
 rw [hrow]
 clear htl hrow I0 hXlt KL hc4 hs ht
 generalize hX:x*2^s=X at *
 generalize hY:y*2^s=Y at *
 refine ⟨by omega,by omega,by omega,fun z V'=>∃us qs:List Nat,z.2.1=aA us++tl/\z.2.2=aA qs/\OI X Y n n8 z.1 us qs,fun z=>(z.1+1).toNat,
  ⟨(((n+1-n8:Nat):Int)-1,aA ((ag X++[0,0]).take (n+1))++tl,aA (List.replicate (n+1-n8) 0)),?_,_,_,rfl,rfl,Mr⟩,?_⟩
 ·(try dsimp only);and_intros<;>first|exact True.intro|rfl
 rintro ⟨j,row,Nm⟩ V7 l7 ⟨us,qs,rfl,rfl,hO⟩
 dsimp only at hO ⊢
 have hj0:=hO.j0
 have hj1:=hO.j1
 have F_:=hO.ul
 have Ew:=hO.ql
 refine ⟨by trivial,fun h3=>?_,fun h3=>?_⟩
 ·have h3:0<=j:=by simpa using h3
  obtain ⟨j,rfl⟩:=Int.eq_ofNat_of_zero_le h3
  have hjn:j+n8<=n:=by omega
  obtain ⟨hz,u0,u1,u2,t',hu0,hu1,hu2,hK⟩:=hO.body CG hjn
  obtain ⟨eb,KA,KB⟩:=hK.words
  have w8:i64.wrap ((j:Int)+n8)=((j+n8:Nat):Int):=by rw [aD (by omega)];omega
  have w9:i64.wrap (((j+n8:Nat):Int)-1)=((j+n8-1:Nat):Int):=by rw [aD (by omega)];omega
  have JW:i64.wrap (((j+n8:Nat):Int)-2)=((j+n8-2:Nat):Int):=by rw [aD (by omega)];omega
  have MC:i64.wrap ((j:Int)-1)=(j:Int)-1:=aD (by omega)
  simp only [w8,w9,JW,MC,Int.toNat_natCast]
  refine ⟨⟨by omega,by omega⟩,_,fA hu0,by omega,⟨by omega,by omega⟩,_,fA hu1,by omega,by omega,?_⟩
  rw [eb,KA,KB]
  clear eb KA KB
  refine ⟨fun g V'=>∃G:Nat,g=(G:Int)/\GF (val (us.drop j)) Y G,
   ⟨fun z V'=>∃G ρ:Nat,z=((G:Int),(ρ:Int))/\GI v1 (u0*4294967296+u1) (val (us.drop j)) Y G ρ,fun z=>z.1.toNat,
    ⟨((((u0*4294967296+u1) / v1:Nat):Int),(((u0*4294967296+u1)%v1:Nat):Int)),by (try dsimp only);and_intros<;>first|exact True.intro|rfl,_,_,rfl,hK.start⟩,?_⟩,?_⟩
  ·rintro _ V8 l8 ⟨G,ρ,rfl,DB⟩
   obtain ⟨AZ,hor,Nx,HT⟩:=hK.E2 DB
   dsimp only
   have t1:∀a:Nat,((((a / 2^32:Nat):Int) != 0)=true↔4294967296<=a)/\((((a / 2^32:Nat):Int) != 0)=false↔a<4294967296):=by
    intro a
    constructor
    ·rw [bne_iff_ne];omega
    ·rw [bne_eq_false_iff_eq];omega
   simp only [Nx,dK,(t1 _).1,(t1 _).2]
   refine ⟨by trivial,by omega,fun hc=>⟨by omega,fun hd=>?_,fun hd=>?_⟩,fun hc=>⟨by omega,⟨by omega,by omega⟩,_,fA hu2,fun ht=>⟨by omega,fun hd=>?_,fun hd=>?_⟩,fun ht=>?_⟩⟩
   ·obtain ⟨g1,g2⟩:=hK.Dy DB (hK.Dw hc) hd
    exact ⟨((G-1:Nat):Int),by rw [HT g1];(try dsimp only);and_intros<;>first|exact True.intro|rfl,G-1,rfl,g2⟩
   ·obtain ⟨g1,g2⟩:=hK.Dz DB (hK.Dw hc) hd
    exact ⟨(((G-1:Nat):Int),((ρ+v1:Nat):Int)),by (try dsimp only);omega,by rw [HT g1];(try dsimp only);and_intros<;>first|exact True.intro|rfl,G-1,ρ+v1,rfl,g2⟩
   ·have h1:=hK.dec DB (by rw [AZ,hor,decide_eq_true_eq] at ht;omega)
    obtain ⟨g1,g2⟩:=hK.Dy DB h1 hd
    exact ⟨((G-1:Nat):Int),by rw [HT g1];(try dsimp only);and_intros<;>first|exact True.intro|rfl,G-1,rfl,g2⟩
   ·have h1:=hK.dec DB (by rw [AZ,hor,decide_eq_true_eq] at ht;omega)
    obtain ⟨g1,g2⟩:=hK.Dz DB h1 hd
    exact ⟨(((G-1:Nat):Int),((ρ+v1:Nat):Int)),by (try dsimp only);omega,by rw [HT g1];(try dsimp only);and_intros<;>first|exact True.intro|rfl,G-1,ρ+v1,rfl,g2⟩
   ·have h1:G*v2<=ρ*4294967296+u2:=by rw [AZ,hor,decide_eq_false_iff_not] at ht;omega
    exact ⟨(G:Int),by (try dsimp only);and_intros<;>first|exact True.intro|rfl,G,rfl,hK.last DB hc h1⟩
  ·rintro _ V9 l9 ⟨G,rfl,hGF⟩
   have E8:=hGF.g
   clear hK hu0 hu1 hu2
   have hvl:=CG.len
   have hvs:=ae Y
   refine ⟨by trivial,fun z V'=>∃(b c i:Nat)(fs:List Nat),z=((b:Int),(c:Int),(i:Int),aA fs++tl)/\uw us (ag Y) j G i b c fs,fun z=>n8-z.2.2.1.toNat,
     ⟨(0,0,0,aA us++tl),by (try dsimp only);and_intros<;>first|exact True.intro|rfl,0,0,0,us,rfl,by omega,by omega,by omega,rfl,hO.ud,rfl,rfl,by simp⟩,?_⟩
   rintro _ iC l10 ⟨b,c,i,fs,rfl,hS⟩
   dsimp only
   simp only [Int.toNat_natCast]
   have hi:=hS.hi
   have hfl:=hS.len
   refine ⟨by trivial,fun hc=>?_,fun hc=>?_⟩
   ·have hc:i<n8:=by simpa using hc
    obtain ⟨u,d,ob,od,cn,cb,q1,q2,q3,q4,q5,q6,q7,hS'⟩:=hS.step E8 (aB Y) hO.ud (by omega) (by omega)
    refine (h8.le (l7.trans (l9.trans l10))).HN i rfl q1 ?_
    have Ny:i64.wrap ((j:Int)+i)=((j+i:Nat):Int):=by rw [aD (by omega)];omega
    have Nz:i64.wrap ((i:Int)+1)=((i+1:Nat):Int):=by rw [aD (by omega)];omega
    rw [q3,Ny,Nz,Int.toNat_natCast]
    refine ⟨⟨by omega,by omega⟩,_,fA q2,⟨by omega,by omega⟩,by simp;omega,by omega,by omega,?_⟩
    rw [q4,q5,q6]
    refine ⟨((ob:Int),(cb:Int),((i+1:Nat):Int),aA (fs.set (j+i) od)++tl),by (try dsimp only);omega,?_,_,_,_,_,rfl,hS'⟩
    (try dsimp only);and_intros<;>first|exact True.intro|rfl|exact nT (by omega)
   ·have hc:i=(ag Y).length:=by simp at hc;omega
    subst hc
    obtain ⟨u,ob,od,q1,q2,q3,q4,q5,q6,q7,q8,q9,G7⟩:=hS.fin hO.ud (by omega) (by rw [hvl];exact hz)
    rw [hvl] at q1 q6 q7 q8 q9 G7
    rw [hvs] at G7
    refine ⟨⟨by omega,by omega⟩,_,fA q1,⟨by omega,by omega⟩,by simp;omega,⟨by omega,by omega⟩,by simp;omega,by omega,?_⟩
    rw [q2,q3,nT (by omega),kY (x:=(G:Int)) (by omega)]
    generalize fs.set (j+n8) od=ks at *
    have F4:∀H:Nat,(aA qs).set (0+j*1) (.int .u32 (H:Int))=aA (qs.set j H):=by intro H;rw [Nat.zero_add,Nat.mul_one,aY]
    rw [F4]
    refine ⟨fun h0=>?_,fun h0=>?_⟩
    ·have h0:ob=0:=by simpa using h0
     rw [h0,Nat.mul_zero,Nat.add_zero] at G7
     have hlt:=hGF.lt
     rw [Nat.add_mul,Nat.one_mul] at hlt
     refine ⟨((j:Int)-1,aA ks++tl,aA (qs.set j G)),by (try dsimp only);omega,by (try dsimp only);and_intros<;>first|exact True.intro|rfl,ks,qs.set j G,rfl,rfl,?_⟩
     exact hO.next hjn q7 q6 q8 G7 (by omega) E8
    ·have h0:ob=1:=by
      have:ob≠0:=by simpa using h0
      omega
     rw [h0,Nat.mul_one] at G7
     have FY:∀ls:List Nat,ls.length=n+1->bD ls->val (ls.drop (j+n8+1))=0->val (ls.drop j)<4294967296^(n8+1):=by
      intro ls h1 h2 h3
      have a1:=aU (ls.drop j) (n8+1) (by simp;omega)
      rw [List.drop_drop,show j+(n8+1)=j+n8+1 from by omega,h3,Nat.mul_zero,Nat.add_zero] at a1
      have a2:=dp ((h2.drop j).take (n8+1))
      rw [List.length_take,List.length_drop,Nat.min_eq_left (by omega)] at a2
      omega
     have N0:=FY ks (by omega) q6 q9
     have hG1:1<=G:=by
      rcases Nat.eq_zero_or_pos G with e0|e0
      ·subst e0;omega
      ·exact e0
     have NW:G*Y=(G-1)*Y+Y:=by conv=>lhs;rw [←Nat.sub_add_cancel hG1,Nat.add_mul,Nat.one_mul]
     have NX:=hGF.gt
     have I2:u32.wrap ((G:Int)-1)=((G-1:Nat):Int):=by rw [kY (by omega)];omega
     refine ⟨⟨by omega,by omega⟩,(G:Int),by rw [Nat.zero_add,Nat.mul_one,dP (by simp;omega),List.getElem_set_self],⟨by omega,by omega⟩,by simp;omega,?_⟩
     have Ex:(aA (qs.set j G)).set (0+j*1) (.int .u32 ((G-1:Nat):Int))=aA (qs.set j (G-1)):=by rw [Nat.zero_add,Nat.mul_one,aY,List.set_set]
     rw [I2,Ex]
     refine ⟨fun z V'=>∃(c' i2:Nat)(gs:List Nat),z=((c':Int),(i2:Int),aA gs++tl)/\uq ks (ag Y) j i2 c' gs,fun z=>n8-z.2.1.toNat,
      ⟨(0,0,aA ks++tl),by (try dsimp only);and_intros<;>first|exact True.intro|rfl,0,0,ks,rfl,by omega,by omega,rfl,q6,rfl,rfl,by simp⟩,?_⟩
     rintro _ mf cB ⟨c',i2,gs,rfl,hA⟩
     dsimp only
     simp only [Int.toNat_natCast]
     have hi2:=hA.hi
     have hgl:=hA.len
     refine ⟨by trivial,fun hc=>?_,fun hc=>?_⟩
     ·have hc:i2<n8:=by simpa using hc
      obtain ⟨u,d,od,cn,cb,r1,r2,r3,r4,r5,hA'⟩:=hA.step (aB Y) q6 (by omega) (by omega)
      refine (h8.le (l7.trans (l9.trans (l10.trans cB)))).HN i2 rfl r1 ?_
      have NA:i64.wrap ((j:Int)+i2)=((j+i2:Nat):Int):=by rw [aD (by omega)];omega
      have w16:i64.wrap ((i2:Int)+1)=((i2+1:Nat):Int):=by rw [aD (by omega)];omega
      rw [NA,w16,Int.toNat_natCast]
      refine ⟨⟨by omega,by omega⟩,_,fA r2,⟨by omega,by omega⟩,by simp;omega,by omega,?_⟩
      rw [r3,r4,r5]
      refine ⟨((cb:Int),((i2+1:Nat):Int),aA (gs.set (j+i2) od)++tl),by (try dsimp only);omega,?_,_,_,_,rfl,hA'⟩
      (try dsimp only);and_intros<;>first|exact True.intro|rfl|exact nT (by omega)
     ·have hc:i2=(ag Y).length:=by simp at hc;omega
      subst hc
      obtain ⟨u,od,kp,r1,r2,r3,r4,r5,r6,r7,r8⟩:=hA.fin q6 (by omega) (by rw [hvl];exact q9)
      rw [hvl] at r1 r4 r5 r6 r7 r8
      rw [hvs] at r8
      refine ⟨⟨by omega,by omega⟩,_,fA r1,⟨by omega,by omega⟩,by simp;omega,?_⟩
      rw [r2,nT (by omega)]
      have NZ:=FY _ (by omega) r4 r7
      generalize gs.set (j+n8) od=hs at *
      have II:kp=1:=by
       rcases Nat.eq_zero_or_pos kp with e0|e0
       ·rw [e0,Nat.mul_zero] at r8;omega
       ·omega
      rw [II,Nat.mul_one] at r8
      refine ⟨((j:Int)-1,aA hs++tl,aA (qs.set j (G-1))),by (try dsimp only);omega,by (try dsimp only);and_intros<;>first|exact True.intro|rfl,hs,qs.set j (G-1),rfl,rfl,?_⟩
      exact hO.next hjn (by omega) r4 (by rw [r6,q8]) (by omega) (by omega) (by omega)
 ·have h3:j=-1:=by simp at h3;omega
  subst h3
  obtain ⟨hq,hr⟩:=hO.done hX.symm hY.symm (by omega) CG.top
  have E_:=hO.qd
  have zu:=hO.ud
  intro V8 l8 bk1 bk2 hb1 hb2 J
  have ML:RD V8 (some ⟨bk2,0,none⟩) n8 c7 (us.take n8):=by
   refine ⟨by simp;omega,by omega,fun i v hv=>⟨_,rfl,?_⟩,zu.take n8,fun e0=>nomatch e0⟩
   rw [add_zero']
   refine bW hb2 ?_
   rw [sE,List.getElem?_take] at hv
   split at hv
   ·rename_i hlt
    rw [List.getElem?_append_left (by simp;omega)];exact hv
   ·cases hv
  refine ⟨⟨by omega,by omega⟩,fun V9 l9=>?_⟩
  refine (aP (RD.bf (ds:=qs) hb1 E_ (n:=n+1-n8) (c:=n+1-n8) (by omega) (Nat.le_refl _) |>.le l9) (by omega)).mono ?_
  rintro r iC l10 ⟨k1,rfl,g1⟩
  refine ⟨_,_,_,rfl,fun mf cB=>?_⟩
  rw [Int.toNat_natCast]
  refine (y_ (ML.le (l9.trans (l10.trans cB))) (by simp;omega) s (by omega)).mono ?_
  rintro r mg cX ⟨p2,n2,c2,rfl,g2⟩
  refine ⟨_,_,_,rfl,fun nW cZ=>⟨_,_,_,_,_,_,rfl,?_,?_⟩⟩
  ·rw [aI E_] at g1
   unfold RN
   rw [←hq];exact g1.le (cB.trans (cX.trans cZ))
  ·rw [hr] at g2
   exact g2.le cZ
theorem gX {V:View}{p q:OA}{n c m e:Nat}{xa xb:List Nat}(ha:RD V p n c xa)(hb:RD V q m e xb)(hm:xa.length<=1099511627776)(hn:xb.length<=1099511627776)(h0:val xb≠0) :
  ab prog 193 #[.slice p n c,.slice q m e] V fun r V'=>∃p1 n1 c1 p2 n2 c2,r=.tuple #[.slice p1 n1 c1,.slice p2 n2 c2,.bool true]/\RN V' p1 n1 c1 (val xa / val xb)/\RN V' p2 n2 c2 (val xa%val xb):=by
 have la:=aV ha.cD
 have lb:=aV hb.cD
 refine qU p n c q m e V _ fun V1 l1=>(aP (ha.le l1) (by omega)).mono ?_
 rintro r V2 l2 ⟨n,rfl,hx⟩
 rw [aI ha.cD] at hx
 refine ⟨_,_,_,rfl,fun V3 l3=>(aP (hb.le (l1.trans (l2.trans l3))) (by omega)).mono ?_⟩
 rintro r V4 l4 ⟨m,rfl,hy⟩
 rw [aI hb.cD] at hy
 replace hx:=hx.le (l3.trans l4)
 generalize val xa=x at *
 generalize val xb=y at *
 have hlx:=hx.len
 have sf:=hy.len
 refine ⟨_,_,_,rfl,fun h1=>?_,fun h1 V6 l6=>(rN (hx.le l6) (hy.le l6) (by omega) (by omega)).mono ?_⟩
 ·exfalso
  have:ag y=[]:=List.length_eq_zero_iff.1 (by simp at h1;omega)
  exact h0 (bg.1 this)
 rintro r V7 l7 rfl
 rw [ae,ae]
 replace hx:=hx.le (l6.trans l7)
 replace hy:=hy.le (l6.trans l7)
 refine ⟨_,rfl,fun h2 V8 l8=>(iL (hx.le l8) (by omega)).mono ?_,fun h2=>⟨fun h3=>?_,fun h3 V8 l8=>?_⟩⟩
 ·rintro r V9 l9 ⟨p4,n4,c4,rfl,g1⟩
  have h2:x<y:=by simpa [dJ] using h2
  refine ⟨_,_,_,rfl,fun iC l10=>⟨_,_,_,_,_,_,rfl,?_,?_⟩⟩
  ·rw [Nat.div_eq_of_lt h2];exact RD.nil
  ·rw [Nat.mod_eq_of_lt h2];exact g1.le l10
 ·have h3:m=1:=by simp at h3;omega
  subst h3
  refine hy.Nq 0 rfl (by omega) fun V8 l8=>?_
  have hd:=(aB y).get (i:=0) (by omega)
  have MU:y=(ag y)[0]'(by omega):=by
   have e:=eh (ag y) 0 (by omega)
   rw [ae,List.drop_of_length_le (by omega)] at e
   simpa using e
  rw [←MU] at hd ⊢
  refine (uJ (hx.le l8) (by omega) y h0 hd).mono ?_
  rintro r V9 l9 ⟨p4,n4,c4,rfl,g1⟩
  rw [ae] at g1 ⊢
  have hmod:x%y<y:=Nat.mod_lt _ (by omega)
  refine ⟨_,_,_,_,rfl,fun iC l10=>?_⟩
  rw [aJ (by omega)]
  refine (cF _ (by omega) (by omega)).mono ?_
  rintro r mf cB ⟨p5,n5,c5,rfl,g2⟩
  exact ⟨_,_,_,rfl,fun mg cX=>⟨_,_,_,_,_,_,rfl,g1.le (l10.trans (cB.trans cX)),g2.le cX⟩⟩
 ·have h2:y<=x:=by simpa [←Int.not_lt,dJ] using h2
  have hm2:2<=m:=by
   have:¬(m:Int)=1:=by simpa using h3
   have:ag y≠[]:=fun e=>h0 (bg.1 e)
   have:(ag y).length≠0:=fun e=>this (List.length_eq_zero_iff.1 e)
   omega
  refine (wV (hx.le l8) (hy.le l8) (by omega) hm2 h2).mono ?_
  rintro r V9 l9 ⟨p4,n4,c4,p5,n5,c5,rfl,g1,g2⟩
  exact ⟨_,_,_,_,_,_,rfl,fun iC l10=>⟨_,_,_,_,_,_,rfl,g1.le l10,g2.le l10⟩⟩
theorem oI (x y:Nat):Nat.gcd y (x%y)=Nat.gcd x y:=by
 rw [Nat.gcd_comm x y,Nat.gcd_rec y x,Nat.gcd_comm]
theorem rO {V:View}{p q:OA}{n c m e:Nat}{xa xb:List Nat}(ha:RD V p n c xa)(hb:RD V q m e xb)(hm:xa.length<=1099511627776)(hn:xb.length<=1099511627776) :
  ab prog 192 #[.slice p n c,.slice q m e] V fun r V'=>∃p1 n1 c1,r=.slice p1 n1 c1/\RN V' p1 n1 c1 (Nat.gcd (val xa) (val xb)):=by
 have la:=aV ha.cD
 have lb:=aV hb.cD
 refine xW p n c q m e V _ fun V1 l1=>(fo (ha.le l1) hm).mono ?_
 rintro r V2 l2 ⟨p1,n1,c1,rfl,hx⟩
 refine ⟨_,_,_,rfl,fun V3 l3=>(fo (hb.le (l1.trans (l2.trans l3))) hn).mono ?_⟩
 rintro r V4 l4 ⟨q1,m1,e1,rfl,hy⟩
 replace hx:=hx.le (l3.trans l4)
 refine ⟨_,_,_,rfl,fun z k V'=>∃x y:Nat,RN V' z.1 z.2.1 z.2.2.1 x/\RN V' z.2.2.2.1 z.2.2.2.2.1 z.2.2.2.2.2 y/\Nat.gcd x y=Nat.gcd (val xa) (val xb)/\k=y/\(ag x).length<=1099511627776/\(ag y).length<=1099511627776,
  ⟨(p1,n1,c1,q1,m1,e1),val xb,by (try dsimp only);and_intros<;>trivial,val xa,val xb,hx,hy,rfl,rfl,by omega,by omega⟩,?_⟩
 rintro ⟨p,n,c,q,m,e⟩ k V5 l5 ⟨x,y,hx,hy,hg,hk,hx1,hy1⟩
 dsimp only at hx hy ⊢
 have hlx:=hx.len
 have sf:=hy.len
 rw [←hg]
 have stop:m=0->y=0:=fun h=>bg.1 (List.length_eq_zero_iff.1 (by omega))
 have more:∀V7:View,V5.Le V7->m≠0->ab prog 193 #[.slice p n c,.slice q m e] V7 fun r V8=>∃p1 n1 c1 p2 n2 c2,r=.tuple #[.slice p1 n1 c1,.slice p2 n2 c2,.bool true]/\RN V8 p2 n2 c2 (x%y)/\x%y<y/\Nat.gcd y (x%y)=Nat.gcd (val xa) (val xb)/\(ag (x%y)).length<=1099511627776/\V7.Le V8:=by
  intro V7 l7 h
  have hy0:y≠0:=by
   intro e0;subst e0
   rw [rS] at sf;simp at sf;omega
  have hlt:x%y<y:=Nat.mod_lt _ (by omega)
  refine (gX (hx.le l7) (hy.le l7) hx1 hy1 (by rw [ae];exact hy0)).mono ?_
  rintro r V8 l8 ⟨p4,n4,c4,p5,n5,c5,rfl,g1,g2⟩
  rw [ae,ae] at g2
  exact ⟨_,_,_,_,_,_,rfl,g2,hlt,by rw [oI,hg],Nat.le_trans (ax (by omega)) hy1,l8⟩
 refine ⟨by trivial,fun h1=>⟨fun h2 V6 l6=>?_,fun h2 V7 l7=>(more V7 l7 ?_).mono ?_⟩,fun h1=>⟨fun h1'=>⟨fun h2 V6 l6=>?_,fun h2 V7 l7=>(more V7 l7 ?_).mono ?_⟩,fun h1' mg cX=>?_⟩⟩
 ·rw [stop (by simp at h2;omega),Nat.gcd_zero_right]
  rw [stop (by simp at h2;omega)] at hg
  exact ⟨_,_,_,rfl,hx.le l6⟩
 ·simp at h2;omega
 ·rintro r V8 l8 ⟨p4,n4,c4,p5,n5,c5,rfl,g2,hlt,hg',hl',l9⟩
  exact ⟨_,_,_,_,_,_,_,rfl,(q,m,e,p5,n5,c5),x%y,(by omega),by (try dsimp only);and_intros<;>trivial,y,x%y,hy.le (l7.trans l9),g2,hg'.trans hg.symm,rfl,hy1,hl'⟩
 ·rw [stop (by simp at h2;omega),Nat.gcd_zero_right]
  exact ⟨_,_,_,rfl,hx.le l6⟩
 ·simp at h2;omega
 ·rintro r V8 l8 ⟨p4,n4,c4,p5,n5,c5,rfl,g2,hlt,hg',hl',l9⟩
  exact ⟨_,_,_,_,_,_,_,rfl,(q,m,e,p5,n5,c5),x%y,(by omega),by (try dsimp only);and_intros<;>trivial,y,x%y,hy.le (l7.trans l9),g2,hg'.trans hg.symm,rfl,hy1,hl'⟩
 ·have hn2:n<=2:=by simp at h1;omega
  have hm2:m<=2:=by simp at h1';omega
  have hx2:x<18446744073709551616:=(aC (k:=2)).1 (by omega)
  have hy2:y<18446744073709551616:=(aC (k:=2)).1 (by omega)
  refine (gY (hx.le cX) (by omega)).mono ?_
  rintro r nW cZ rfl
  rw [ae,if_pos hx2]
  refine ⟨_,_,rfl,fun mU dL=>(gY (hy.le (cX.trans (cZ.trans dL))) (by omega)).mono ?_⟩
  rintro r mh eC rfl
  rw [ae,if_pos hy2]
  refine ⟨_,_,rfl,fun z V'=>∃a b:Nat,z=((a:Int),(b:Int))/\Nat.gcd a b=Nat.gcd x y/\a<18446744073709551616/\b<18446744073709551616,fun z=>z.2.toNat,
   ⟨((x:Int),(y:Int)),by (try dsimp only);and_intros<;>trivial,x,y,rfl,rfl,hx2,hy2⟩,?_⟩
  rintro _ nX dM ⟨a,b,rfl,wF,ha2,hb2⟩
  dsimp only
  refine ⟨by trivial,fun h3=>?_,fun h3 nJ dR=>?_⟩
  ·have h3:b≠0:=by rw [bne_iff_ne] at h3;omega
   have hlt:a%b<b:=Nat.mod_lt _ (by omega)
   have e4:(a:Int).tmod (b:Int)=((a%b:Nat):Int):=by rw [Int.tmod_eq_emod_of_nonneg (by omega),←Int.natCast_emod]
   rw [e4]
   exact ⟨by omega,((b:Int),((a%b:Nat):Int)),by (try dsimp only);rw [Int.toNat_natCast,Int.toNat_natCast];exact hlt,by (try dsimp only);and_intros<;>trivial,b,a%b,rfl,by rw [oI,wF],hb2,Nat.lt_trans hlt hb2⟩
  ·have h3:b=0:=by rw [bne_eq_false_iff_eq] at h3;omega
   subst h3
   rw [Nat.gcd_zero_right] at wF
   refine (cF _ (by omega) (by omega)).mono ?_
   rintro r ry fu ⟨p4,n4,c4,rfl,g1⟩
   refine ⟨_,_,_,rfl,fun wE gG=>⟨_,_,_,rfl,?_⟩⟩
   rw [←wF]
   exact g1.le gG
theorem bY {V:View}{p:OA}{n c:Nat}{ds:List Nat}(h:RD V p n c ds)(hm:ds.length<=4611686018427387904) :
  ab prog 123 #[.slice p n c] V fun r V'=>∃k,r=.slice p k c/\RD V' p k c (bI ds):=by
 have hl:=h.len
 have hcp:=h.cap
 refine wq p n c V _ ?_
 refine ⟨fun z V'=>0<=z/\z<=n/\bI (ds.take z.toNat)=bI ds,fun z=>z.toNat,⟨n,by (try dsimp only);and_intros<;>first|exact True.intro|rfl,by (try dsimp only);omega,by (try dsimp only);omega,?_⟩,?_⟩
 ·simp [hl]
 ·rintro k V1 l1 ⟨hk0,hk,ht⟩
  obtain ⟨k,rfl⟩:=Int.eq_ofNat_of_zero_le hk0
  dsimp only at hk ht ⊢
  simp only [Int.toNat_natCast] at ht
  refine ⟨rfl,fun h0=>?_,fun h0=>?_⟩
  ·have h0:0<k:=by simpa using h0
   have w:i64.wrap ((k:Int)-1)=((k-1:Nat):Int):=by rw [aD (by omega)];omega
   simp only [w]
   have hs:ds.take k=ds.take (k-1)++[ds[k-1]]:=by rw [←List.take_succ_eq_append_getElem (by omega),Nat.sub_add_cancel h0]
   refine (h.le l1).rd (k-1) rfl (by omega) ⟨fun hz=>?_,fun hz=>?_⟩
   ·have hz:ds[k-1]=0:=by simpa using hz
    refine ⟨_,?_,by (try dsimp only);and_intros<;>first|exact True.intro|rfl,?_,?_,?_⟩
    ·(try dsimp only);omega
    ·(try dsimp only);omega
    ·(try dsimp only);omega
    ·(try dsimp only)
     rw [←ht,hs,hz,eO];rfl
   ·have hz:ds[k-1]≠0:=by simpa using hz
    refine ⟨⟨by omega,by omega⟩,fun V2 l2=>⟨k,rfl,?_⟩⟩
    rw [←ht,hs,ka _ _ hz,←hs]
    exact ((h.le l1).le l2).take (by omega)
  ·have h0:k=0:=by simpa using h0
   subst h0
   refine ⟨⟨by omega,by omega⟩,fun V2 l2=>⟨0,rfl,?_⟩⟩
   rw [←ht]
   exact ((h.le l1).le l2).take (by omega)
theorem cH {V:View}(u:Nat)(h1:u<18446744073709551616) :
  ab prog 122 #[.int .u64 (u:Int)] V fun r V'=>∃q k c',r=.slice q k c'/\RN V' q k c' u:=by
 refine wu _ V _ ⟨by omega,fun V1 l1 bk hb=>?_⟩
 rw [iA,eX,kY (by omega)] at hb
 have hb:V1.bf bk (.cells (aA [u%4294967296,u / 4294967296]).toArray 186 (0,0)):=by
  simpa [aA] using hb
 have hd:bD [u%4294967296,u / 4294967296]:=by simp [bD];omega
 refine (bY (RD.bf hb hd (n:=2) (c:=2) rfl (Nat.le_refl _)) (by simp)).mono ?_
 rintro r V2 l2 ⟨k,rfl,h2⟩
 refine ⟨_,_,_,rfl,fun _ V3 l3=>⟨_,_,_,rfl,?_⟩⟩
 rw [aI hd] at h2
 have:val [u%4294967296,u / 4294967296]=u:=by simp;omega
 rw [this] at h2
 exact h2.le l3
theorem gD {V:View} :
  ab prog 121 #[] V fun r V'=>∃q k c',r=.slice q k c'/\RN V' q k c' 1:=by
 refine yh V _ fun V1 l1 bk hb=>⟨_,_,_,rfl,?_⟩
 have hd:ag 1=[1]:=Cz (by omega) (by omega)
 unfold RN
 rw [hd]
 have hb:V1.bf bk (.cells (aA [1]).toArray 186 (0,0)):=by
  simpa [aA] using hb
 exact RD.bf hb (by simp [bD]) rfl (Nat.le_refl _)
def zO (x:Int):Int:=if 0<x then 1 else if x<0 then -1 else 0
theorem wY {V:View}(x:Int) :
  ab prog 164 #[.int .i64 x] V fun r V'=>r=.int .i64 (zO x):=by
 refine wz x V _ ⟨fun h V1 l1=>?_,fun h=>⟨fun h2 V1 l1=>?_,fun h2 V1 l1=>?_⟩⟩
 ·have h:0<x:=by simpa using h
  rw [zO,if_pos h]
 ·have h:x<0:=by simpa using h2
  rw [zO,if_neg (by omega),if_pos h]
 ·have h:¬0<x:=by simpa using h
  have h2:¬x<0:=by simpa using h2
  rw [zO,if_neg h,if_neg h2]
theorem dZ {V:View}{p q:OA}{n c m e:Nat}{x y:Nat}(ha:RN V p n c x)(hb:RN V q m e y)(hm:(ag x).length<=1099511627776)(hn:(ag y).length<=1099511627776) :
  ab prog 119 #[.slice p n c,.slice q m e] V fun r V'=>r=.int .i64 (fV x y):=by
 have hl1:=ha.len
 have hl2:=hb.len
 refine yd p n c q m e V _ ⟨fun h0 V1 l1=>?_,fun h0=>?_⟩
 ·have w:i64.wrap ((n:Int)-m)=(n:Int)-m:=aD (by omega)
  simp only [w]
  refine (wY _).mono ?_
  rintro r V2 l2 rfl
  refine ⟨_,rfl,fun V3 l3=>?_⟩
  have h0:n≠m:=by simp at h0;omega
  congr 1
  rcases Nat.lt_or_ge n m with h|h
  ·have:=gI (a:=x) (b:=y) (by omega)
   rw [fV,if_pos this,zO,if_neg (by omega),if_pos (by omega)]
  ·have:=gI (a:=y) (b:=x) (by omega)
   rw [fV,if_neg (by omega),if_pos this,zO,if_pos (by omega)]
 ·have h0:n=m:=by simp at h0;omega
  subst h0
  have w:i64.wrap ((n:Int)-1)=(n:Int)-1:=aD (by omega)
  simp only [w]
  refine ⟨fun z V'=>-1<=z/\z<n/\(ag x).drop (z+1).toNat=(ag y).drop (z+1).toNat,fun z=>(z+1).toNat,⟨_,by (try dsimp only);and_intros<;>first|exact True.intro|rfl,by (try dsimp only);omega,by (try dsimp only);omega,?_⟩,?_⟩
  ·(try dsimp only)
   rw [List.drop_of_length_le (by omega),List.drop_of_length_le (by omega)]
  ·rintro i V7 l7 ⟨hi0,hi1,hd⟩
   dsimp only at hi0 hi1 hd ⊢
   refine ⟨by trivial,fun h3=>?_,fun h3 V5 l5=>?_⟩
   ·have h3:0<=i:=by simpa using h3
    obtain ⟨i,rfl⟩:=Int.eq_ofNat_of_zero_le h3
    have w:i64.wrap ((i:Int)-1)=(i:Int)-1:=aD (by omega)
    simp only [w]
    have hd':(ag x).drop (i+1)=(ag y).drop (i+1):=hd
    refine (ha.le l7).rd i rfl (by omega) ((hb.le l7).rd i rfl (by omega) ⟨fun h4 V8 l8=>?_,fun h4=>?_⟩)
    ·have:=fP (aB y) (by omega) (by omega) hd'.symm (by simpa using h4)
     rw [ae,ae] at this
     rw [fV,if_neg (by omega),if_pos this]
    ·refine (ha.le l7).rd i rfl (by omega) ((hb.le l7).rd i rfl (by omega) ⟨fun h5 V8 l8=>?_,fun h5=>?_⟩)
     ·have:=fP (aB x) (by omega) (by omega) hd' (by simpa using h5)
      rw [ae,ae] at this
      rw [fV,if_pos this]
     ·refine ⟨_,?_,by (try dsimp only);and_intros<;>first|exact True.intro|rfl,?_,?_,?_⟩
      ·(try dsimp only);omega
      ·(try dsimp only);omega
      ·(try dsimp only);omega
      ·(try dsimp only)
       have:((i:Int)-1+1).toNat=i:=by omega
       rw [this,List.drop_eq_getElem_cons (by omega),List.drop_eq_getElem_cons (l:=ag y) (by omega),hd']
       congr 1
       simp at h4 h5
       omega
   ·have h3:i=-1:=by simp at h3;omega
    subst h3
    have:ag x=ag y:=by simpa using hd
    have:=kz this
    subst this
    simp [fV]
theorem Bf (a b:Nat):bB (a:Int) (b:Int)=((max a b:Nat):Int):=by
 unfold bB
 split<;>omega
theorem zd {V:View}{p q:OA}{n c m e:Nat}{xs ys:List Nat}(hx:RD V p n c xs)(hy:RD V q m e ys)(hm:xs.length<=1099511627776)(hn:ys.length<=1099511627776) :
  ab prog 118 #[.slice p n c,.slice q m e] V fun r V'=>∃p' n' c',r=.slice p' n' c'/\RN V' p' n' c' (val xs+val ys):=by
 have hlx:=hx.len
 have sf:=hy.len
 have vc:=yk p n c q m e V
 have w:i64.wrap (((max n m:Nat):Int)+1)=((max n m+1:Nat):Int):=by rw [aD (by omega)];omega
 simp only [Bf,w,Int.toNat_natCast] at vc
 obtain ⟨k,hk⟩:∃k,k=max n m:=⟨_,rfl⟩
 rw [←hk] at vc
 refine vc _ ⟨by omega,by omega,by omega,fun z V'=>0<=z.1/\z.1<=1/\0<=z.2.1/\z.2.1<=k/\∃es:List Nat,z.2.2=aA es/\es.length=k+1/\bD es /\
   val (es.take z.2.1.toNat)+4294967296^z.2.1.toNat*z.1.toNat=val (xs.take z.2.1.toNat)+val (ys.take z.2.1.toNat),fun z=>k-z.2.1.toNat,⟨(0,0,aA (List.replicate (k+1) 0)),by (try dsimp only);and_intros<;>first|exact True.intro|rfl|exact bU _,by (try dsimp only);omega,by (try dsimp only);omega,by (try dsimp only);omega,by (try dsimp only);omega,_,rfl,by simp,bD.rep _,by simp⟩,?_⟩
 rintro ⟨cy,i,vs⟩ V2 l2 ⟨hc0,hc1,hi0,hi1,es,rfl,hes,hde,hv⟩
 dsimp only at hc0 hc1 hi0 hi1 hv ⊢
 obtain ⟨i,rfl⟩:=Int.eq_ofNat_of_zero_le hi0
 obtain ⟨cy,rfl⟩:=Int.eq_ofNat_of_zero_le hc0
 simp only [Int.toNat_natCast] at hv
 refine ⟨by trivial,fun h3=>?_,fun h3=>?_⟩
 ·have h3:i<k:=by simpa using h3
  refine ⟨fun z V'=>∃x:Nat,z=x/\x<4294967296/\val (xs.take (i+1))=val (xs.take i)+4294967296^i*x,⟨fun h4=>?_,fun h4=>?_⟩,?_⟩
  ·have h4:i<n:=by simpa using h4
   refine (hx.le l2).rd i rfl (by omega) ?_
   exact ⟨_,by (try dsimp only);and_intros<;>first|exact True.intro|rfl,xs[i],rfl,hx.cD.get (by omega),ar _ _ (by omega)⟩
  ·have h4:n<=i:=by simpa using h4
   exact ⟨_,by (try dsimp only);and_intros<;>first|exact True.intro|rfl,0,rfl,by omega,by rw [aj (by omega),aj (by omega)];simp⟩
  rintro _ V3 l3 ⟨x,rfl,hx1,hx2⟩
  refine ⟨by trivial,fun z V'=>∃y:Nat,z=y/\y<4294967296/\val (ys.take (i+1))=val (ys.take i)+4294967296^i*y,⟨fun h4=>?_,fun h4=>?_⟩,?_⟩
  ·have h4:i<m:=by simpa using h4
   refine ((hy.le l2).le l3).rd i rfl (by omega) ?_
   exact ⟨_,by (try dsimp only);and_intros<;>first|exact True.intro|rfl,ys[i],rfl,hy.cD.get (by omega),ar _ _ (by omega)⟩
  ·have h4:m<=i:=by simpa using h4
   exact ⟨_,by (try dsimp only);and_intros<;>first|exact True.intro|rfl,0,rfl,by omega,by rw [aj (by omega),aj (by omega)];simp⟩
  rintro _ V4 l4 ⟨y,rfl,hy1,hy2⟩
  refine ⟨by trivial,fun V5 l5=>(Cm x y cy hx1 hy1 (by omega)).mono ?_⟩
  rintro r V6 l6 rfl
  have w:i64.wrap ((i:Int)+1)=((i+1:Nat):Int):=by rw [aD (by omega)];omega
  simp only [w,Int.toNat_natCast]
  refine ⟨_,_,rfl,⟨by omega,by omega⟩,by simp;omega,(((x+y+cy) / 4294967296:Nat),((i+1:Nat):Int),aA (es.set i ((x+y+cy)%4294967296))),?_,by (try dsimp only);and_intros<;>first|exact True.intro|rfl|(rw [←aY];simp),?_⟩
  ·(try dsimp only);omega
  ·(try dsimp only)
   refine ⟨by omega,by omega,by omega,by omega,_,rfl,by simpa using hes,hde.set _ _ (by omega),?_⟩
   simp only [Int.toNat_natCast]
   rw [aF _ _ _ (by omega),Nat.pow_succ,hx2,hy2]
   exact nZ hv (by omega)
 ·have h3:i=k:=by simp at h3;omega
  subst h3
  refine ⟨⟨by omega,by omega⟩,by simp;omega,fun V3 l3 bk hb=>?_⟩
  have e1:(aA es).set (0+((i:Int).toNat)*1) (.int .u32 (cy:Int))=aA (es.set i cy):=by rw [←aY];simp
  simp only [Int.toNat_natCast] at e1
  try simp only [Int.toNat_natCast] at hb
  rw [e1] at hb
  have hd2:=hde.set i cy (by omega)
  refine (bY (RD.bf hb hd2 (n:=i+1) (c:=i+1) (by simp;omega) (Nat.le_refl _)) (by simp;omega)).mono ?_
  rintro r V4 l4 ⟨k,rfl,h4⟩
  refine ⟨_,_,_,rfl,fun _ V5 l5=>⟨_,_,_,rfl,?_⟩⟩
  rw [aI hd2] at h4
  have e2:val (es.set i cy)=val xs+val ys:=by
   have:=aF es i cy (by omega)
   rw [aj (by simp;omega)] at this
   rw [this,hv,aj (by omega),aj (by omega)]
  rw [e2] at h4
  exact h4.le l5
theorem xO {E A B c x y W d b:Nat}(h:E+B=A+W*c)(hv:d+(y+c)=x+4294967296*b) :
  E+W*d+(B+W*y)=A+W*x+W*4294967296*b:=by
 have:=congrArg (W*·) hv
 simp only [Nat.mul_add,←Nat.mul_assoc] at this
 omega
theorem jN {V:View}{p q:OA}{n c m e:Nat}{xs ys:List Nat}(hx:RD V p n c xs)(hy:RD V q m e ys)(hm:xs.length<=1099511627776)(hl:ys.length<=xs.length)(hle:val ys<=val xs) :
  ab prog 120 #[.slice p n c,.slice q m e] V fun r V'=>∃p' n' c',r=.slice p' n' c'/\RN V' p' n' c' (val xs-val ys):=by
 have hlx:=hx.len
 have sf:=hy.len
 refine wh p n c q m e V _ ⟨by omega,by omega,by omega,fun z V'=>0<=z.1/\z.1<=1/\0<=z.2.1/\z.2.1<=n/\∃es:List Nat,z.2.2=aA es/\es.length=n/\bD es /\
   val (es.take z.2.1.toNat)+val (ys.take z.2.1.toNat)=val (xs.take z.2.1.toNat)+4294967296^z.2.1.toNat*z.1.toNat,fun z=>n-z.2.1.toNat,
   ⟨(0,0,List.replicate n (.int .u32 0)),by (try dsimp only);and_intros<;>first|exact True.intro|rfl,by (try dsimp only);omega,by (try dsimp only);omega,by (try dsimp only);omega,by (try dsimp only);omega,List.replicate n 0,bU n,by simp,bD.rep _,by simp⟩,?_⟩
 rintro ⟨cy,i,vs⟩ V2 l2 ⟨hc0,hc1,hi0,hi1,es,rfl,hes,hde,hv⟩
 dsimp only at hc0 hc1 hi0 hi1 hv ⊢
 obtain ⟨i,rfl⟩:=Int.eq_ofNat_of_zero_le hi0
 obtain ⟨cy,rfl⟩:=Int.eq_ofNat_of_zero_le hc0
 simp only [Int.toNat_natCast] at hv
 refine ⟨by trivial,fun h3=>?_,fun h3=>?_⟩
 ·have h3:i<n:=by simpa using h3
  refine ⟨fun z V'=>∃y:Nat,z=y/\y<4294967296/\val (ys.take (i+1))=val (ys.take i)+4294967296^i*y,⟨fun h4=>?_,fun h4=>?_⟩,?_⟩
  ·have h4:i<m:=by simpa using h4
   refine (hy.le l2).rd i rfl (by omega) ?_
   exact ⟨_,by (try dsimp only);and_intros<;>first|exact True.intro|rfl,ys[i],rfl,hy.cD.get (by omega),ar _ _ (by omega)⟩
  ·have h4:m<=i:=by simpa using h4
   exact ⟨_,by (try dsimp only);and_intros<;>first|exact True.intro|rfl,0,rfl,by omega,by rw [aj (by omega),aj (by omega)];simp⟩
  rintro _ V3 l3 ⟨y,rfl,hy1,hy2⟩
  refine ⟨by trivial,?_⟩
  refine ((hx.le l2).le l3).rd i rfl (by omega) fun V4 l4=>(Cu _ y cy (hx.cD.get (by omega)) hy1 (by omega)).mono ?_
  rintro r V5 l5 ⟨d,b,rfl,hd,hb,hdb⟩
  have w:i64.wrap ((i:Int)+1)=((i+1:Nat):Int):=by rw [aD (by omega)];omega
  simp only [w,Int.toNat_natCast]
  refine ⟨_,_,rfl,⟨by omega,by omega⟩,by simp;omega,((b:Int),((i+1:Nat):Int),aA (es.set i d)),?_,by (try dsimp only);and_intros<;>first|exact True.intro|rfl|(rw [←aY];simp),?_⟩
  ·(try dsimp only);omega
  ·(try dsimp only)
   refine ⟨by omega,by omega,by omega,by omega,_,rfl,by simpa using hes,hde.set _ _ (by omega),?_⟩
   simp only [Int.toNat_natCast]
   rw [aF _ _ _ (by omega),Nat.pow_succ,ar xs i (by omega),hy2]
   exact xO hv hdb
 ·have h3:i=n:=by simp at h3;omega
  subst h3
  simp only [Int.toNat_natCast]
  intro V3 l3 bk hb
  refine (bY (RD.bf hb hde (n:=i) (c:=i) hes.symm (Nat.le_refl _)) (by omega)).mono ?_
  rintro r V4 l4 ⟨k,rfl,h4⟩
  refine ⟨_,_,_,rfl,fun _ V5 l5=>⟨_,_,_,rfl,?_⟩⟩
  rw [aI hde] at h4
  rw [aj (by omega),aj (by omega),aj (by omega)] at hv
  have e1:=dp hde
  rw [hes] at e1
  have e2:cy=0:=by
   rcases Nat.eq_zero_or_pos cy with h|h
   ·exact h
   ·have:4294967296^i*1<=4294967296^i*cy:=Nat.mul_le_mul_left _ h
    omega
  subst e2
  rw [show val es=val xs-val ys from by omega] at h4
  exact h4.le l5
theorem vB {V:View}{p:OA}{n c:Nat}{ds:List Nat}(h:RD V p n c ds){K:Int->Prop}(hn:0<ds.length)
  (hK:K ((ds[0]:Nat):Int)):(p.isSome=true)/\(0<=(0:Int)/\(0:Int)<(n:Int))/\∃x:Int,(∃a,af p 0=some a/\V.at a (.int .u32 x))/\K x:=by
 have:=h.rd (i:=0) (K:=K) 0 rfl hn hK
 simpa using this
theorem Da {V:View}{p:OA}{n c:Nat}{ds:List Nat}(h:RD V p n c ds){K:Int->Prop}(j:Nat)(hn:j<ds.length)
  (hK:K ((ds[j]:Nat):Int)):(p.isSome=true)/\(0<=(j:Int)/\(j:Int)<(n:Int))/\∃x:Int,(∃a,af p j=some a/\V.at a (.int .u32 x))/\K x:=by
 have:=h.rd (i:=j) (K:=K) j rfl hn hK
 simpa using this
theorem ie {ds:List Nat}(h:ds.length=1):∃a,ds=[a]:=by
 match ds,h with
 | [a],_=>exact ⟨a,rfl⟩
theorem xR {ds:List Nat}(h:ds.length=2):∃a b,ds=[a,b]:=by
 match ds,h with
 | [a,b],_=>exact ⟨a,b,rfl⟩
theorem bX {V:View}{p q:OA}{n c m e:Nat}{xs ys:List Nat}(hx:RD V p n c xs)(hy:RD V q m e ys)(hm:xs.length+ys.length<=1099511627776) :
  ab prog 78 #[.slice p n c,.slice q m e] V fun r V'=>∃p' n' c',r=.slice p' n' c'/\RN V' p' n' c' (val xs*val ys):=by
 have hlx:=hx.len
 have sf:=hy.len
 have hnm':((n:Int)+m).toNat=n+m:=by omega
 have w:i64.wrap ((n:Int)+m)=(n:Int)+m:=aD (by omega)
 have vc:=pZ p n c q m e V
 simp only [w,hnm',bU] at vc
 refine (fun tail=>vc _ ⟨fun h0=>⟨fun h1=>?_,fun _=>tail⟩,fun _=>tail⟩) ?_
 ·have h0:n=1:=by simp at h0;omega
  have h1:m=1:=by simp at h1;omega
  clear tail vc
  obtain ⟨a,rfl⟩:=ie (ds:=xs) (by omega)
  obtain ⟨b,rfl⟩:=ie (ds:=ys) (by omega)
  have sd:=hx.cD.get (i:=0) (by simp)
  have hdy:=hy.cD.get (i:=0) (by simp)
  refine vB hx (by simp) (vB hy (by simp) fun V1 l1=>?_)
  simp only [List.getElem_cons_zero] at sd hdy ⊢
  have wF:a*b<=4294967295*4294967295:=Nat.mul_le_mul (by omega) (by omega)
  have e1:u64.wrap (a:Int)=a:=aJ (by omega)
  have e2:u64.wrap (b:Int)=b:=aJ (by omega)
  have e3:(a:Int)*(b:Int)=((a*b:Nat):Int):=by simp
  have e4:u64.wrap ((a*b:Nat):Int)=((a*b:Nat):Int):=aJ (by omega)
  rw [e1,e2,e3,e4]
  refine (cH (a*b) (by omega)).mono ?_
  rintro r V2 l2 ⟨p',n',c',rfl,h⟩
  refine ⟨_,_,_,rfl,fun V3 l3=>⟨_,_,_,rfl,?_⟩⟩
  simp only [aT,cS,Nat.mul_zero,Nat.add_zero]
  exact h.le l3
 refine ⟨by omega,by omega,by omega,fun z V'=>0<=z.1/\z.1<=n/\∃es:List Nat,z.2=aA es/\es.length=n+m/\bD es /\
  val (es.take (z.1.toNat+m))=val (xs.take z.1.toNat)*val ys,fun z=>n-z.1.toNat,⟨(0,aA (List.replicate (n+m) 0)),by (try dsimp only);and_intros<;>first|exact True.intro|rfl,by (try dsimp only);omega,by (try dsimp only);omega,_,rfl,by simp,bD.rep _,by simp [nU,List.take_replicate]⟩,?_⟩
 rintro ⟨i,vs⟩ V5 l5 ⟨hi0,hi1,es,rfl,hes,hde,hv⟩
 dsimp only at hi0 hi1 hv ⊢
 obtain ⟨i,rfl⟩:=Int.eq_ofNat_of_zero_le hi0
 simp only [Int.toNat_natCast] at hv
 refine ⟨by trivial,fun h3=>?_,fun h3=>?_⟩
 ·have h3:i<n:=by simpa using h3
  refine (hx.le l5).rd i rfl (by omega) ?_
  have sd:=hx.cD.get (i:=i) (by omega)
  refine ⟨fun z V'=>0<=z.1/\z.1<=4294967295/\0<=z.2.1/\z.2.1<=m/\∃fs:List Nat,z.2.2=aA fs/\fs.length=n+m/\bD fs/\fs.drop (i+z.2.1.toNat)=es.drop (i+z.2.1.toNat) /\
   val (fs.take (i+z.2.1.toNat))+4294967296^(i+z.2.1.toNat)*z.1.toNat=val (es.take (i+z.2.1.toNat))+4294967296^i*xs[i]*val (ys.take z.2.1.toNat),fun z=>m-z.2.1.toNat,
   ⟨(0,0,aA es),by (try dsimp only);and_intros<;>first|exact True.intro|rfl,by (try dsimp only);omega,by (try dsimp only);omega,by (try dsimp only);omega,by (try dsimp only);omega,es,rfl,hes,hde,rfl,by simp⟩,?_⟩
  rintro ⟨cy,k,vs⟩ V6 l6 ⟨hc0,hc1,hk0,hk1,fs,rfl,hfs,hdf,hdr,hw⟩
  dsimp only at hc0 hc1 hk0 hk1 hdr hw ⊢
  obtain ⟨k,rfl⟩:=Int.eq_ofNat_of_zero_le hk0
  obtain ⟨cy,rfl⟩:=Int.eq_ofNat_of_zero_le hc0
  simp only [Int.toNat_natCast] at hdr hw
  refine ⟨by trivial,fun h4=>?_,fun h4=>?_⟩
  ·have h4:k<m:=by simpa using h4
   refine (hy.le (l5.trans l6)).rd k rfl (by omega) ?_
   have hdy:=hy.cD.get (i:=k) (by omega)
   have IB:=hdf.get (i:=i+k) (by omega)
   have hef:fs[i+k]'(by omega)=es[i+k]'(by omega):=by
    have h1:fs[i+k]?=es[i+k]?:=by
     have:=congrArg (fun l=>l[0]?) hdr
     simpa [List.getElem?_drop] using this
    rw [List.getElem?_eq_getElem (by omega),List.getElem?_eq_getElem (by omega)] at h1
    exact Option.some.inj h1
   simp (disch:=omega) only [aD]
   have hik:((i:Int)+k).toNat=i+k:=by omega
   rw [hik]
   refine ⟨⟨by omega,by omega⟩,((fs[i+k]'(by omega):Nat):Int),by rw [Nat.zero_add,Nat.mul_one];exact dP (by omega),⟨by omega,by omega⟩,by simp;omega,by omega,?_⟩
   have hxy:xs[i]*ys[k]<=4294967295*4294967295:=Nat.mul_le_mul (by omega) (by omega)
   have ED:(xs[i]:Int)*(ys[k]:Int)=((xs[i]*ys[k]:Nat):Int):=by simp
   obtain ⟨t,ht⟩:∃t:Nat,t=cy+xs[i]*ys[k]+fs[i+k]'(by omega):=⟨_,rfl⟩
   rw [Nat.pow_add] at hw
   have hstep:=vo hw ht
   have e1:u64.wrap (u64.wrap (u64.wrap (u64.wrap (xs[i]:Int)*u64.wrap (ys[k]:Int))+u64.wrap ((fs[i+k]'(by omega):Nat):Int))+(cy:Int))=(t:Int):=by
    clear hstep
    generalize xs[i]*ys[k]=pq at *
    rw [aJ (x:=(xs[i]:Int)) (by omega),aJ (x:=(ys[k]:Int)) (by omega),ED,aJ (x:=((pq:Nat):Int)) (by omega)]
    simp (disch:=omega) only [aJ]
    omega
   rw [e1,eX,iA]
   refine ⟨(_,_,_),?_,by (try dsimp only);and_intros<;>first|exact True.intro|rfl,?_⟩
   ·(try dsimp only);omega
   ·(try dsimp only)
    have hk2:((k:Int)+1).toNat=k+1:=by omega
    refine ⟨by omega,by omega,by omega,by omega,fs.set (i+k) (t%4294967296),?_,by simpa using hfs,hdf.set _ _ (by omega),?_,?_⟩
    ·rw [←aY];simp
    ·rw [hk2,List.drop_set_of_lt (by omega)]
     have:=congrArg (List.drop 1) hdr
     simpa [List.drop_drop,Nat.add_comm,Nat.add_assoc,Nat.add_left_comm] using this
    ·rw [hk2,show i+(k+1)=i+k+1 from by omega,aF _ _ _ (by omega),ar es (i+k) (by omega),ar ys k (by omega),←hef,Nat.pow_succ]
     have e2:((t:Int) / 4294967296).toNat=t / 4294967296:=by omega
     rw [e2,Nat.pow_add,hstep]
  ·have h4:k=m:=by simp at h4;omega
   subst h4
   simp (disch:=omega) only [aD]
   have hik:((i:Int)+k).toNat=i+k:=by omega
   rw [hik]
   refine ⟨⟨by omega,by omega⟩,by simp;omega,(_,_),?_,by (try dsimp only);and_intros<;>first|exact True.intro|rfl,?_⟩
   ·(try dsimp only);omega
   ·(try dsimp only)
    have hi2:((i:Int)+1).toNat=i+1:=by omega
    refine ⟨by omega,by omega,fs.set (i+k) cy,?_,by simpa using hfs,hdf.set _ _ (by omega),?_⟩
    ·rw [←aY,kY (by omega)];simp
    ·rw [hi2,show i+1+k=i+k+1 from by omega,aF _ _ _ (by omega),hw,hv,ar xs i (by omega),aj (ds:=ys) (by omega)]
     grind
 ·have h3:i=n:=by simp at h3;omega
  subst h3
  intro V6 l6 bk hb'
  refine (bY (RD.bf hb' hde (n:=i+m) (c:=i+m) (by omega) (Nat.le_refl _)) (by omega)).mono ?_
  rintro r V7 l7 ⟨k,rfl,h4⟩
  refine ⟨_,_,_,rfl,fun _ V8 l8=>⟨_,_,_,rfl,?_⟩⟩
  rw [aI hde] at h4
  rw [aj (by omega),aj (by omega)] at hv
  rw [hv] at h4
  exact h4.le l8
theorem hE {V:View}{p:OA}{n c:Nat}{ds:List Nat}(h:RD V p n c ds)(hm:ds.length<=1099511627776) :
  ab prog 160 #[.slice p n c] V fun r V'=>r=.tuple #[.int .u64 ((if n<=2 then val ds else 0:Nat):Int),.bool (decide (n<=2))]:=by
 have hl:=h.len
 refine wA p n c V _ ⟨fun h0 V1 l1=>?_,fun h0=>⟨fun h1=>?_,fun h1=>⟨fun h2=>?_,fun h2 V1 l1=>?_⟩⟩⟩
 ·have h0:n=0:=by simp at h0;omega
  subst h0
  have:ds=[]:=List.length_eq_zero_iff.1 (by omega)
  subst this
  rfl
 ·have h1:n=1:=by simp at h1;omega
  subst h1
  obtain ⟨a,rfl⟩:=ie (ds:=ds) (by omega)
  have hd:=h.cD.get (i:=0) (by simp)
  refine vB h (by simp) fun V1 l1=>?_
  simp only [List.getElem_cons_zero] at hd ⊢
  have e1:u64.wrap (a:Int)=a:=aJ (by omega)
  rw [e1,if_pos (by omega),decide_eq_true (by omega)]
  simp
 ·have h2:n=2:=by simp at h2;omega
  subst h2
  obtain ⟨a,b,rfl⟩:=xR (ds:=ds) (by omega)
  have hd0:=h.cD.get (i:=0) (by simp)
  have hd1:=h.cD.get (i:=1) (by simp)
  refine Da h 1 (by simp) ⟨by omega,vB h (by simp) fun V1 l1=>?_⟩
  simp only [List.getElem_cons_zero,List.getElem_cons_succ] at hd0 hd1 ⊢
  have e1:u64.wrap (a:Int)=a:=aJ (by omega)
  have e2:u64.wrap (b:Int)=b:=aJ (by omega)
  have e3:((2:Int)^32)=4294967296:=by decide
  have e4:u64.wrap ((b:Int)*4294967296)=(b:Int)*4294967296:=aJ (by omega)
  rw [e1,e2,e3,e4,vv _ _ hd1 hd0,if_pos (by omega),decide_eq_true (by omega)]
  simp only [aT,cS]
  congr 4
  omega
 ·have h2:¬n<=2:=by simp at h0 h1 h2;omega
  rw [if_neg h2,decide_eq_false h2]
  rfl
theorem zF (b:Nat):0 ||| b=b:=Nat.zero_or b
theorem gZ {V:View}{p:OA}{n c:Nat}{ds:List Nat}(hx:RD V p n c ds)(hm:ds.length<=1099511627776)(k:Nat)(hk:k<=35184372088832) :
  ab prog 198 #[.slice p n c,.int .i64 (k:Int)] V fun r V'=>∃p' n' c',r=.slice p' n' c'/\RN V' p' n' c' (val ds*2^k):=by
 have hl:=hx.len
 have e2:(k:Int).tdiv 32=((k / 32:Nat):Int):=by rw [Int.tdiv_eq_ediv_of_nonneg (by omega)];omega
 have e3:(k:Int).tmod 32=((k%32:Nat):Int):=by rw [Int.tmod_eq_emod_of_nonneg (by omega)];omega
 have vc:=wg p n c k V
 have hk2:val ds*2^k=4294967296^(k / 32)*val ds*2^(k%32):=by
  have:2^k=4294967296^(k / 32)*2^(k%32):=by
   rw [show (4294967296:Nat)=2^32 from rfl,←Nat.pow_mul,←Nat.pow_add,Nat.div_add_mod]
  rw [this];grind
 rw [hk2]
 have hwl:k / 32<=1099511627776:=by omega
 have hrl:k%32<32:=Nat.mod_lt _ (by omega)
 rw [e2,e3] at vc
 generalize k / 32=w at *
 generalize k%32=r at *
 clear e2 e3 hk2
 have w1:i64.wrap (w:Int)=(w:Int):=aD (by omega)
 have w2:i64.wrap ((w:Int)+n)=((w+n:Nat):Int):=by rw [aD (by omega)];omega
 have w3:i64.wrap (((w+n:Nat):Int)+1)=((w+n+1:Nat):Int):=by rw [aD (by omega)];omega
 have w4:u64.wrap (r:Int)=(r:Int):=aJ (by omega)
 have hmin:(min r IntKind.u64.bits)=r:=by
  show min _ 64=r
  omega
 have hp:((2:Int)^r)=((2^r:Nat):Int):=by simp
 simp only [w1,w2,w3,w4,Int.toNat_natCast,hmin,hp,bU] at vc
 refine vc _ ⟨by omega,by omega,by omega,by omega,by omega,fun z V'=>0<=z.1/\z.1<=n/\∃es:List Nat,z.2=aA es/\es.length=w+n+1/\bD es/\(∀c,es[z.1.toNat+w]?=some c->c<2^r)/\(∀j c,z.1.toNat+w<j->es[j]?=some c->c=0) /\
   val (es.take (z.1.toNat+w+1))=4294967296^w*val (ds.take z.1.toNat)*2^r,fun z=>n-z.1.toNat,
   ⟨(0,aA (List.replicate (w+n+1) 0)),by (try dsimp only);and_intros<;>first|exact True.intro|rfl,by (try dsimp only);omega,by (try dsimp only);omega,_,rfl,by simp,bD.rep _,?_,?_,?_⟩,?_⟩
 ·intro c hc
  rw [List.getElem?_replicate] at hc
  split at hc
  ·cases hc;exact Nat.two_pow_pos r
  ·cases hc
 ·intro j c _ hc
  rw [List.getElem?_replicate] at hc
  split at hc
  ·cases hc;rfl
  ·cases hc
 ·simp [List.take_replicate,nU]
 rintro ⟨i,vs⟩ V4 l4 ⟨hi0,hi1,es,rfl,hes,hde,hc,hz,hv⟩
 dsimp only at hi0 hi1 hc hz hv ⊢
 obtain ⟨i,rfl⟩:=Int.eq_ofNat_of_zero_le hi0
 simp only [Int.toNat_natCast] at hc hz hv
 refine ⟨by trivial,fun h3=>?_,fun h3=>?_⟩
 ·have h3:i<n:=by simpa using h3
  have x1:i64.wrap ((w:Int)+i)=((i+w:Nat):Int):=by rw [aD (by omega)];omega
  have x2:i64.wrap (((i+w:Nat):Int)+1)=((i+w+1:Nat):Int):=by rw [aD (by omega)];omega
  have x3:i64.wrap ((i:Int)+1)=((i+1:Nat):Int):=by rw [aD (by omega)];omega
  simp only [x1,x2,x3,Int.toNat_natCast,Nat.mul_one,Nat.zero_add]
  refine Da (hx.le l4) i (by omega) ?_
  have sd:=hx.cD.get (i:=i) (by omega)
  have hce:=hc (es[i+w]'(by omega)) (List.getElem?_eq_getElem _)
  have MV:=hz (i+w+1) (es[i+w+1]'(by omega)) (by omega) (List.getElem?_eq_getElem _)
  obtain ⟨g1,g2,g3,g4⟩:=vL sd hrl hce
  have hmul:((ds[i]:Nat):Int)*((2^r:Nat):Int)=((ds[i]*2^r:Nat):Int):=by simp
  have x4:u64.wrap ((ds[i]:Nat):Int)=((ds[i]:Nat):Int):=aJ (by omega)
  have x5:u64.wrap ((ds[i]*2^r:Nat):Int)=((ds[i]*2^r:Nat):Int):=aJ (by omega)
  have ec:u32.wrap ((ds[i]*2^r:Nat):Int)=((ds[i]*2^r%4294967296:Nat):Int):=by rw [eX];omega
  have ed:u32.wrap (((ds[i]*2^r:Nat):Int).fdiv (2^32))=((ds[i]*2^r / 4294967296:Nat):Int):=by rw [iA,eX];omega
  simp only [x4,hmul,x5,ec,ed]
  have hd2:ds[i]*2^r / 4294967296<4294967296:=by omega
  have Ae:=Nat.mod_add_div (ds[i]*2^r) 4294967296
  have hdr:val (List.take (i+1) ds)=val (List.take i ds)+4294967296^i*ds[i]:=ar _ _ (by omega)
  have Eo:val (es.take (i+w+1))=val (es.take (i+w))+4294967296^(i+w)*es[i+w]'(by omega):=ar _ _ (by omega)
  have hlo:ds[i]*2^r%4294967296<4294967296:=Nat.mod_lt _ (by omega)
  generalize ds[i]*2^r%4294967296=lo at *
  generalize ds[i]*2^r / 4294967296=hi at *
  refine ⟨by omega,by omega,⟨by omega,by omega⟩,((es[i+w]'(by omega):Nat):Int),dP (by omega),⟨by omega,by omega⟩,by simp;omega,by omega,⟨by omega,by omega⟩,((es[i+w+1]'(by omega):Nat):Int),?_,by omega,⟨by omega,by omega⟩,by simp;omega,?_⟩
  ·rw [List.getElem?_set_ne (by omega)];exact dP (by omega)
  have FV:es[i+w]'(by omega)<4294967296:=hde.get (by omega)
  rw [xA _ _ FV hlo,g1,MV,xA _ _ (by omega) hd2,zF]
  refine ⟨(((i+1:Nat):Int),aA ((es.set (i+w) (es[i+w]'(by omega)+lo)).set (i+w+1) hi)),?_,?_,?_⟩
  ·(try dsimp only);omega
  ·(try dsimp only);and_intros<;>first|exact True.intro|rfl|rw [←aY,←aY]
  ·(try dsimp only)
   refine ⟨by omega,by omega,_,rfl,by simpa using hes,(hde.set _ _ (by omega)).set _ _ (by omega),?_,?_,?_⟩
   ·intro c hc'
    simp only [Int.toNat_natCast] at hc'
    rw [show i+1+w=i+w+1 from by omega,List.getElem?_set_self (by simp;omega)] at hc'
    cases hc';exact g3
   ·intro j c hj hc'
    simp only [Int.toNat_natCast] at hj
    rw [List.getElem?_set_ne (by omega),List.getElem?_set_ne (by omega)] at hc'
    exact hz j c (by omega) hc'
   ·simp only [Int.toNat_natCast]
    rw [show i+1+w+1=i+w+1+1 from by omega,aF _ _ _ (by simp;omega),aF _ _ _ (by omega),hdr]
    rw [Eo] at hv
    have hA:4294967296^(i+w+1)*hi=4294967296^(i+w)*(4294967296*hi):=by rw [Nat.pow_succ];grind
    rw [hA,Nat.mul_add,←Nat.add_assoc,hv,Nat.add_assoc,←Nat.mul_add,Ae,Nat.pow_add]
    grind
 ·have h3:i=n:=by simp at h3;omega
  subst h3
  intro V5 l5 bk hb
  refine (bY (RD.bf hb hde (n:=w+i+1) (c:=w+i+1) (by omega) (Nat.le_refl _)) (by omega)).mono ?_
  rintro r' V6 l6 ⟨k',rfl,h4⟩
  refine ⟨_,_,_,rfl,fun _ V7 l7=>⟨_,_,_,rfl,?_⟩⟩
  rw [aj (by omega),aj (by omega)] at hv
  rw [aI hde,hv] at h4
  exact h4.le l7
theorem sH (a:Addr)(m n:Nat):(a.add m).add n=a.add (m+n):=by
 unfold Addr.add
 by_cases h1:m=0
 ·subst h1;simp
 ·by_cases h2:n=0
  ·subst h2;simp [h1]
  ·rw [if_neg h1,if_neg h2,if_neg (by omega)]
   simp only [Nat.add_assoc]
theorem D7 {V:View}{p:OA}{n c:Nat}{ds:List Nat}(h:RD V p n c ds){k:Nat}(hk:k<n):RD V (nj p c k 1) (n-k) (c-k) (ds.drop k):=by
 have hl:=h.len
 have hc:=h.cap
 have e:nj p c k 1=af p k:=by unfold nj;rw [if_neg (by omega),Nat.mul_one]
 rw [e]
 refine ⟨by simp;omega,by omega,fun i v hv=>?_,h.cD.drop k,fun hp=>?_⟩
 ·rw [zV,List.getElem?_drop] at hv
  obtain ⟨ad,e1,hat⟩:=h.sl _ _ hv
  refine ⟨ad.add k,by rw [e1];rfl,?_⟩
  rw [sH];exact hat
 ·have:p.isNone=true:=by cases p<;>simp_all [af]
  have:=h.zD this
  omega
theorem uL {V:View}{p:OA}{n c:Nat}{ds:List Nat}(hd:RD V p n c ds)(hm:ds.length<=1099511627776)(k:Nat)(hk:k<=35184372088832) :
  ab prog 199 #[.slice p n c,.int .i64 (k:Int)] V fun r V'=>∃p' n' c',r=.slice p' n' c'/\RN V' p' n' c' (val ds / 2^k):=by
 have hl:=hd.len
 have e2:(k:Int).tdiv 32=((k / 32:Nat):Int):=by rw [Int.tdiv_eq_ediv_of_nonneg (by omega)];omega
 have e3:(k:Int).tmod 32=((k%32:Nat):Int):=by rw [Int.tmod_eq_emod_of_nonneg (by omega)];omega
 have vc:=tW p n c k V
 have hk2:val ds / 2^k=val ds / 4294967296^(k / 32) / 2^(k%32):=by
  rw [Nat.div_div_eq_div_mul,show (4294967296:Nat)=2^32 from rfl,←Nat.pow_mul,←Nat.pow_add,Nat.div_add_mod]
 rw [hk2]
 have hwl:k / 32<=1099511627776:=by omega
 have hrl:k%32<32:=Nat.mod_lt _ (by omega)
 rw [e2,e3] at vc
 generalize k / 32=w at *
 generalize k%32=r at *
 clear e2 e3 hk2
 have w1:i64.wrap (w:Int)=(w:Int):=aD (by omega)
 have w4:u64.wrap (r:Int)=(r:Int):=aJ (by omega)
 have hmin:(min r IntKind.u64.bits)=r:=by
  show min _ 64=r
  omega
 simp only [w1,w4,Int.toNat_natCast,hmin,bU] at vc
 refine vc _ ⟨by omega,fun h0 V1 l1=>?_,fun h0=>?_⟩
 ·have h0:n<=w:=by simp at h0;omega
  have hlt:=dp hd.cD
  have:4294967296^ds.length<=4294967296^w:=Nat.pow_le_pow_right (by omega) (by omega)
  rw [Nat.div_eq_of_lt (Nat.lt_of_lt_of_le hlt this),Nat.zero_div]
  exact ⟨_,_,_,rfl,RD.nil⟩
 ·have h0:w<n:=by simp at h0;omega
  clear vc
  have hxw:val ds / 4294967296^w=val (ds.drop w):=by
   have e:val ds=val (ds.take w++ds.drop w):=by rw [List.take_append_drop]
   have hlt:=dp (hd.cD.take w)
   rw [ct] at e
   rw [List.length_take,Nat.min_eq_left (by omega)] at e hlt
   rw [e,Nat.add_mul_div_left _ _ (Nat.pow_pos (by omega)),Nat.div_eq_of_lt hlt,Nat.zero_add]
  rw [hxw]
  have hx:=D7 hd h0
  have hlx:=hx.len
  clear hxw
  generalize nj p c w 1=sp at *
  generalize ds.drop w=xs at *
  generalize hN:n-w=N at *
  refine ⟨by omega,by omega,⟨by omega,by omega⟩,by omega,by omega,by omega,fun z V'=>0<=z.1/\z.1<=N/\∃es:List Nat,z.2=aA es/\es.length=N/\bD es /\
   val (es.take z.1.toNat)+4294967296^z.1.toNat*(val (xs.drop z.1.toNat) / 2^r)=val xs / 2^r,fun z=>N-z.1.toNat,
   ⟨(0,aA (List.replicate N 0)),by (try dsimp only);and_intros<;>first|exact True.intro|rfl,by (try dsimp only);omega,by (try dsimp only);omega,_,rfl,by simp,bD.rep _,by simp⟩,?_⟩
  rintro ⟨i,vs⟩ V4 l4 ⟨hi0,hi1,es,rfl,hes,hde,hv⟩
  dsimp only at hi0 hi1 hv ⊢
  obtain ⟨i,rfl⟩:=Int.eq_ofNat_of_zero_le hi0
  simp only [Int.toNat_natCast] at hv
  refine ⟨by trivial,fun h3=>?_,fun h3=>?_⟩
  ·have h3:i<N:=by simpa using h3
   have x3:i64.wrap ((i:Int)+1)=((i+1:Nat):Int):=by rw [aD (by omega)];omega
   simp only [x3,Int.toNat_natCast,Nat.mul_one,Nat.zero_add]
   refine Da (hx.le l4) i (by omega) ?_
   have sd:=hx.cD.get (i:=i) (by omega)
   refine ⟨fun z V'=>z=((xs[i]+4294967296*(xs[i+1]?).getD 0:Nat):Int),⟨fun h4=>?_,fun h4=>?_⟩,?_⟩
   ·have h4:i+1<N:=by simp at h4;omega
    have hdy:=hx.cD.get (i:=i+1) (by omega)
    have e4:aX .or .u64 (u64.wrap ((xs[i]:Nat):Int)) (u64.wrap (u64.wrap ((xs[i+1]:Nat):Int)*2^32))=((xs[i]+4294967296*(xs[i+1]?).getD 0:Nat):Int):=by
     have e3:((2:Int)^32)=4294967296:=by decide
     rw [e3,aJ (by omega),aJ (x:=((xs[i+1]:Nat):Int)) (by omega),aJ (by omega),Bw _ _ hdy sd,List.getElem?_eq_getElem (by omega),Option.getD_some]
     omega
    refine Da (hx.le l4) (i+1) (by omega) ⟨by omega,((xs[i]+4294967296*(xs[i+1]?).getD 0:Nat):Int),?_,rfl⟩
    (try dsimp only);and_intros<;>first|exact True.intro|exact e4|rfl
   ·have h4:N<=i+1:=by simp at h4;omega
    have e4:u64.wrap ((xs[i]:Nat):Int)=((xs[i]+4294967296*(xs[i+1]?).getD 0:Nat):Int):=by
     rw [aJ (by omega),List.getElem?_eq_none (by omega)];simp
    refine ⟨((xs[i]+4294967296*(xs[i+1]?).getD 0:Nat):Int),?_,rfl⟩
    (try dsimp only);and_intros<;>first|exact True.intro|exact e4|rfl
   rintro _ V5 l5 rfl
   have hst:=vM (Y:=val (xs.drop (i+1))) sd hrl
   rw [kZ hx.cD] at hst
   have hdrop:val (xs.drop i)=xs[i]+4294967296*val (xs.drop (i+1)):=by
    rw [List.drop_eq_getElem_cons (by omega),aT]
   rw [hdrop,hst] at hv
   rw [dK,eX]
   obtain ⟨D,hD⟩:∃D,D=(xs[i]+4294967296*(xs[i+1]?).getD 0) / 2^r%4294967296:=⟨_,rfl⟩
   have eD:(((xs[i]+4294967296*(xs[i+1]?).getD 0) / 2^r:Nat):Int)%4294967296=(D:Int):=by rw [hD];omega
   rw [eD]
   rw [←hD] at hv
   refine ⟨by trivial,by omega,⟨by omega,by omega⟩,by simp;omega,(((i+1:Nat):Int),aA (es.set i D)),?_,?_,?_⟩
   ·(try dsimp only);omega
   ·(try dsimp only);and_intros<;>first|exact True.intro|rfl|rw [←aY]
   ·(try dsimp only)
    refine ⟨by omega,by omega,_,rfl,by simpa using hes,hde.set _ _ (by omega),?_⟩
    simp only [Int.toNat_natCast]
    rw [aF _ _ _ (by omega),←hv,Nat.pow_succ,Nat.mul_add,Nat.add_assoc,Nat.mul_assoc]
  ·have h3:i=N:=by simp at h3;omega
   subst h3
   intro V5 l5 bk hb
   refine (bY (RD.bf hb hde (n:=i) (c:=i) (by omega) (Nat.le_refl _)) (by omega)).mono ?_
   rintro r' V6 l6 ⟨k',rfl,h4⟩
   refine ⟨_,_,_,rfl,fun _ V7 l7=>⟨_,_,_,rfl,?_⟩⟩
   rw [aj (by omega),List.drop_of_length_le (l:=xs) (i:=i) (by omega)] at hv
   have hv:val es=val xs / 2^r:=by
    rw [←hv,cS,Nat.zero_div,Nat.mul_zero,Nat.add_zero]
   rw [aI hde,hv] at h4
   exact h4.le l7
end Go.Proofs.Tryz
namespace Go.dS
theorem mO {ds:List Nat}(hd:bD ds)(w:Nat)(hw:w<=ds.length):val ds / 4294967296^w=val (ds.drop w):=by
 have e:val ds=val (ds.take w++ds.drop w):=by rw [List.take_append_drop]
 have hlt:=dp (hd.take w)
 rw [ct] at e
 rw [List.length_take,Nat.min_eq_left (by omega)] at e hlt
 rw [e,Nat.add_mul_div_left _ _ (Nat.pow_pos (by omega)),Nat.div_eq_of_lt hlt,Nat.zero_add]
theorem Gr {R n:Nat}(h:(ag R).length=n+2):R / 4294967296^n=(ag R)[n+1]'(by omega)*4294967296+(ag R)[n]'(by omega):=by
 have:=mO (aB R) n (by omega)
 rw [ae] at this
 rw [this,List.drop_eq_getElem_cons (by omega),List.drop_eq_getElem_cons (i:=n+1) (by omega),List.drop_of_length_le (by omega)]
 simp only [aT,cS]
 omega
theorem DX {R n:Nat}(h:(ag R).length=n+1):R / 4294967296^n=(ag R)[n]'(by omega):=by
 have:=mO (aB R) n (by omega)
 rw [ae] at this
 rw [this,List.drop_eq_getElem_cons (by omega),List.drop_of_length_le (by omega)]
 simp only [aT,cS]
 omega
theorem Gq {R n:Nat}(h:(ag R).length<=n):R / 4294967296^n=0:=Nat.div_eq_of_lt (aC.1 h)
theorem xQ {V n:Nat}(h:(ag V).length=n+1):(ag V)[n]'(by omega)*4294967296^n<=V:=by
 have:=DX h
 rw [←this]
 exact Nat.div_mul_le_self _ _
theorem AP {R V top P W:Nat}(hV:top*P<=V)(ht:0<top)(hP:0<P)(hW:0<W):R / (V*W)<=R / (P*W) / top:=by
 rw [Nat.le_div_iff_mul_le ht,Nat.le_div_iff_mul_le (Nat.mul_pos hP hW)]
 have h1:R / (V*W)*(V*W)<=R:=Nat.div_mul_le_self _ _
 have h2:R / (V*W)*(top*P*W)<=R / (V*W)*(V*W):=Nat.mul_le_mul_left _ (Nat.mul_le_mul_right _ hV)
 have h3:R / (V*W)*top*(P*W)=R / (V*W)*(top*P*W):=by
  generalize R / (V*W)=q
  rw [Nat.mul_assoc q top,←Nat.mul_assoc top P W]
 omega
theorem zz {A V W D R q R':Nat}(h:A=V*(W*4294967296*D)+R)(hq:R=V*q*W+R'):A=V*(W*(q+4294967296*D))+R':=by
 subst hq;rw [h];grind
theorem Be {x y s Q R:Nat}(h:x*2^s=y*2^s*Q+R)(hR:R<y*2^s):Q=x / y/\R / 2^s=x%y:=by
 have hp:=Nat.two_pow_pos s
 have hy:0<y:=by
  rcases Nat.eq_zero_or_pos y with e|e
  ·subst e;simp at hR
  ·exact e
 have h1:y*2^s*Q=(y*Q)*2^s:=by grind
 rw [h1] at h
 have h2:y*Q<=x:=by
  rcases Nat.lt_or_ge x (y*Q) with hl|hl
  ·have:(x+1)*2^s<=y*Q*2^s:=Nat.mul_le_mul_right _ hl
   rw [Nat.add_mul] at this
   omega
  ·exact hl
 obtain ⟨d,rfl⟩:=Nat.exists_eq_add_of_le h2
 rw [Nat.add_mul] at h
 have h3:R=d*2^s:=by omega
 subst h3
 have h4:d<y:=Nat.lt_of_mul_lt_mul_right hR
 rw [Nat.mul_div_cancel _ hp]
 constructor
 ·rw [Nat.mul_add_div hy,Nat.div_eq_of_lt h4,Nat.add_zero]
 ·rw [Nat.mul_add_mod,Nat.mod_eq_of_lt h4]
theorem D0 (j:Nat):2^(32*j)=4294967296^j:=by rw [Nat.pow_mul]
theorem xg {R V W g:Nat}(E9:0<V*W)(h:V*g*W<=R)(hq:R / (V*W)<=g):g=R / (V*W):=by
 have:g<=R / (V*W):=by
  rw [Nat.le_div_iff_mul_le E9]
  have:g*(V*W)=V*g*W:=by grind
  omega
 omega
theorem AQ {R V W g:Nat}(E9:0<V*W)(h:R<V*g*W):R / (V*W)<g:=by
 rw [Nat.div_lt_iff_lt_mul E9]
 have:g*(V*W)=V*g*W:=by grind
 omega
theorem xM {R V W:Nat}:R=V*(R / (V*W))*W+R%(V*W):=by
 have:=Nat.div_add_mod R (V*W)
 have e:V*(R / (V*W))*W=V*W*(R / (V*W)):=by
  generalize R / (V*W)=q
  grind
 omega
theorem eU {a b:Nat}:(ag (a*b)).length<=(ag a).length+(ag b).length:=by
 rw [aC,Nat.pow_add]
 have h1:a<4294967296^(ag a).length:=aC.1 (Nat.le_refl _)
 have h2:b<4294967296^(ag b).length:=aC.1 (Nat.le_refl _)
 exact Nat.mul_lt_mul'' h1 h2
theorem tg (j:Nat):(ag (4294967296^j)).length<=j+1:=by
 rw [aC]
 exact Nat.pow_lt_pow_right (by omega) (by omega)
end Go.dS
