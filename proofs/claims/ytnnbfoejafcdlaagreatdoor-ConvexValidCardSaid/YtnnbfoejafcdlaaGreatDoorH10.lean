import Derived.Test.YtnnbfoejafcdlaaGreatDoorH9
import Derived.Test.YtnnbfoejafcdlaaGreatDoorH6
set_option linter.unusedVariables false
open Go.IntKind (i64 u64 u32)
namespace Go.Proofs.Tryz
open Go.bE Go.dP
theorem _root_.Go.bE.RD.rd0 {V:View}{p:OA}{n c:Nat}{ds:List Nat}(h:RD V p n c ds){i:Int}{K:Int->Prop}(j:Nat)(hj:i=j)(hn:j<ds.length)
  (hK:K ((ds[j]:Nat):Int)):(p.isSome=true)/\(0<=i/\i<(n:Int))/\∃x:Int,(∃a,ah p j=some a/\V.at a (.int .u32 x))/\K x:=by
 have:=h.rd (K:=K) j hj hn hK
 subst hj
 simpa only [Int.toNat_natCast,Nat.mul_one] using this
theorem MO {us:List Nat}{rest:List Value}{k:Nat}(h:k<us.length):(aG us++rest)[0+k*1]?=some (.int .u32 (us[k]:Int)):=by
 rw [Nat.zero_add,Nat.mul_one,List.getElem?_append_left (by simpa using h)]
 exact fU h
theorem ua {us:List Nat}{rest:List Value}{k x:Nat}(h:k<us.length):(aG us++rest).set (0+k*1) (.int .u32 (x:Int))=aG (us.set k x)++rest:=by
 rw [Nat.zero_add,Nat.mul_one,List.set_append_left _ _ (by simpa using h),bA]
theorem DM {y m t s:Nat}(hm:(ag y).length=m)(h0:0<m)(ht:t=(ag y)[m-1]'(by omega))(hs:s=32-bM t) :
  s<32/\(ag (y*2^s)).length=m/\2147483648*4294967296^(m-1)<=y*2^s:=by
 have htd:t<4294967296:=by rw [ht];exact (aH y).get _
 have htn:t≠0:=by rw [ht];have:=(gZ y).last (by omega);simpa [hm] using this
 have g0:=pN t
 have g1:=pK htn
 have hbl:bM t<=32:=jl.2 (by omega)
 have hbp:0<bM t:=by unfold bM;rw [if_neg htn];omega
 have e:=gJ (ag y) (m-1) (by omega)
 rw [ae,List.drop_of_length_le (by omega),←ht] at e
 simp only [eF,Nat.mul_zero,Nat.add_zero] at e
 have hlt:=eL ((aH y).take (m-1))
 rw [List.length_take,Nat.min_eq_left (by omega)] at hlt
 have h1:2^bM t*2^s=4294967296:=by rw [←Nat.pow_add,hs,Nat.add_sub_cancel' hbl]
 have h2:2^(bM t-1)*2^s=2147483648:=by rw [←Nat.pow_add,show bM t-1+s=31 from by omega]
 have h3:2147483648*4294967296^(m-1)<=y*2^s:=by
  have:2^(bM t-1)*2^s*4294967296^(m-1)<=t*2^s*4294967296^(m-1):=Nat.mul_le_mul_right _ (Nat.mul_le_mul_right _ g1)
  rw [h2] at this
  have h4:t*2^s*4294967296^(m-1)=4294967296^(m-1)*t*2^s:=by grind
  have h5:4294967296^(m-1)*t*2^s<=y*2^s:=Nat.mul_le_mul_right _ (by omega)
  omega
 refine ⟨by omega,?_,h3⟩
 have h6:y*2^s<4294967296^m:=by
  have a1:y<4294967296^(m-1)*(t+1):=by rw [Nat.mul_add,Nat.mul_one];omega
  have a2:4294967296^(m-1)*(t+1)*2^s<=4294967296^(m-1)*2^bM t*2^s:=Nat.mul_le_mul_right _ (Nat.mul_le_mul_left _ g0)
  have a3:4294967296^(m-1)*2^bM t*2^s=4294967296^m:=by
   rw [Nat.mul_assoc,h1,←Nat.pow_succ,Nat.succ_eq_add_one,Nat.sub_add_cancel h0]
  have a4:y*2^s<4294967296^(m-1)*(t+1)*2^s:=Nat.mul_lt_mul_of_pos_right a1 (Nat.two_pow_pos s)
  omega
 have b1:=aI.2 h6
 have b2:m-1<(ag (y*2^s)).length:=by
  rw [rU]
  have:1*4294967296^(m-1)<=2147483648*4294967296^(m-1):=Nat.mul_le_mul_right _ (by omega)
  omega
 omega
theorem VQ {us:List Nat}{k:Nat}(h:k+2<us.length)(hz:val (us.drop (k+3))=0) :
  val us=((us[k+2]*4294967296+us[k+1])*4294967296+us[k])*4294967296^k+val (us.take k):=by
 have h1:=gJ us k (by omega)
 rw [List.drop_eq_getElem_cons (i:=k+1) (by omega),List.drop_eq_getElem_cons (i:=k+1+1) (by omega),bq,bq] at h1
 rw [show k+1+1+1=k+3 from rfl,hz] at h1
 rw [h1]
 grind
theorem VO {us:List Nat}{k:Nat}(h:us.length=k+2):val us=(us[k+1]*4294967296+us[k])*4294967296^k+val (us.take k):=by
 have h1:=gJ us k (by omega)
 rw [List.drop_eq_getElem_cons (i:=k+1) (by omega),bq,List.drop_of_length_le (by omega),eF] at h1
 rw [h1]
 grind
theorem bu (us:List Nat)(k:Nat)(h:k<=us.length):val us=val (us.take k)+4294967296^k*val (us.drop k):=by
 conv=>lhs;rw [←List.take_append_drop k us]
 rw [dD,List.length_take,Nat.min_eq_left h]
theorem h_ {us:List Nat}{k:Nat}(h:val us<4294967296^k)(hk:k<=us.length):val (us.drop k)=0:=by
 have:=bu us k hk
 rcases Nat.eq_zero_or_pos (val (us.drop k)) with e|e
 ·exact e
 ·have:4294967296^k*1<=4294967296^k*val (us.drop k):=Nat.mul_le_mul_left _ e
  omega
theorem _root_.Go.bE.RD.SW {V:View}{p:OA}{n c:Nat}{ds:List Nat}(h:RD V p n c ds){i:Int}{K:Int->Prop}(j:Nat)(hj:i=j){d:Nat}(hn:ds[j]?=some d)
  (hK:K (d:Int)):(p.isSome=true)/\(0<=i/\i<(n:Int))/\∃x:Int,(∃a,ah p (i.toNat*1)=some a/\V.at a (.int .u32 x))/\K x:=by
 obtain ⟨h1,h2⟩:=List.getElem?_eq_some_iff.1 hn
 exact h.rd j hj h1 (by rw [h2];exact hK)
theorem iZ {us:List Nat}{rest:List Value}{k d:Nat}(h:us[k]?=some d):(aG us++rest)[0+k*1]?=some (.int .u32 (d:Int)):=by
 obtain ⟨h1,h2⟩:=List.getElem?_eq_some_iff.1 h
 rw [MO h1,h2]
structure Cb (us vs:List Nat) (j G i b c:Nat) (fs:List Nat):Prop where
 b1:b<=1
 c1:c<4294967296
 hi:i<=vs.length
 len:fs.length=us.length
 cZ:bN fs
 dr:fs.drop (j+i)=us.drop (j+i)
 tk:fs.take j=us.take j
 eq:val (fs.take (j+i))+4294967296^j*(G*val (vs.take i))=val (us.take (j+i))+4294967296^j*4294967296^i*(c+b)
theorem Cb.read {us vs:List Nat}{j G i b c:Nat}{fs:List Nat}(h:Cb us vs j G i b c fs)(hj:j+i<us.length):∃u,fs[j+i]?=some u/\us[j+i]?=some u:=by
 have:=congrArg (fun l=>l[0]?) h.dr
 simp only [List.getElem?_drop,Nat.add_zero] at this
 exact ⟨us[j+i],by rw [this,List.getElem?_eq_getElem hj],List.getElem?_eq_getElem hj⟩
theorem Cb.step {us vs:List Nat}{j G i b c:Nat}{fs:List Nat}(h:Cb us vs j G i b c fs)(hG:G<4294967296)(hdv:bN vs)(H2:bN us)(hi:i<vs.length)(hj:j+i<us.length) :
  ∃u d ob od cn cb:Nat,vs[i]?=some d/\fs[j+i]?=some u/\u64.wrap ((c:Int)+u64.wrap ((G:Int)*u64.wrap (d:Int)))=(cn:Int)/\(cn:Int).fdiv (2^32)=(cb:Int) /\
   (u64.wrap (u64.wrap (u64.wrap (u:Int)-bz .and .u64 (cn:Int) 4294967295)-(b:Int))).fdiv (2^63)=(ob:Int) /\
   u32.wrap (u64.wrap (u64.wrap (u64.wrap (u:Int)-bz .and .u64 (cn:Int) 4294967295)-(b:Int)))=(od:Int)/\od<4294967296 /\
   Cb us vs j G (i+1) ob cb (fs.set (j+i) od):=by
 obtain ⟨u,hu1,hu2⟩:=h.read hj
 obtain ⟨hb1,hc1,-,hfs,hdf,Ou,hft,hfe⟩:=h
 have hdd:=hdv.get (i:=i) hi
 have QL:u<4294967296:=H2 u (List.mem_of_getElem? hu2)
 have hgd:G*vs[i]<=4294967295*4294967295:=Nat.mul_le_mul (by omega) (by omega)
 refine ⟨u,vs[i],?_⟩
 have hcn:u64.wrap ((c:Int)+u64.wrap ((G:Int)*u64.wrap ((vs[i]:Nat):Int)))=((c+G*vs[i]:Nat):Int):=by
  rw [aO (x:=((vs[i]:Nat):Int)) (by omega),←Int.natCast_mul]
  generalize G*vs[i]=gd at *
  rw [aO (x:=((gd:Nat):Int)) (by omega),aO (by omega)];omega
 have hst:=Al (x:=((u:Int)-((c+G*vs[i])%4294967296:Nat)-b)%18446744073709551616) hfe hc1 hb1 QL rfl
 have hand:bz .and .u64 ((c+G*vs[i]:Nat):Int) 4294967295=(((c+G*vs[i])%4294967296:Nat):Int):=Gr _ (by omega)
 have hxw:u64.wrap (u64.wrap (u64.wrap (u:Int)-(((c+G*vs[i])%4294967296:Nat):Int))-(b:Int))=((u:Int)-((c+G*vs[i])%4294967296:Nat)-b)%18446744073709551616:=by
  rw [aO (x:=(u:Int)) (by omega),rm,rm]
  omega
 have hcb:(c+G*vs[i]) / 4294967296<4294967296:=by
  generalize G*vs[i]=gd at *;omega
 generalize ((u:Int)-((c+G*vs[i])%4294967296:Nat)-b)%18446744073709551616=xx at *
 obtain ⟨g1,g2,g3,g4⟩:=hst
 obtain ⟨ob,QC⟩:∃ob:Nat,xx / 9223372036854775808=ob:=⟨(xx / 9223372036854775808).toNat,by omega⟩
 obtain ⟨od,hod⟩:∃od:Nat,xx%4294967296=od:=⟨(xx%4294967296).toNat,by omega⟩
 rw [QC,hod] at g4
 simp only [Int.toNat_natCast] at g4
 have Fb:od<4294967296:=by omega
 have OD:ob<=1:=by omega
 refine ⟨ob,od,c+G*vs[i],(c+G*vs[i]) / 4294967296,List.getElem?_eq_getElem hi,hu1,hcn,?_,?_,?_,Fb,OD,hcb,hi,by simpa using hfs,hdf.set _ _ Fb,?_,?_,?_⟩
 ·rw [fP]
 ·rw [hand,hxw,KM,QC]
 ·rw [hand,hxw,iB,hod]
 ·rw [List.drop_set_of_lt (by omega)]
  have:=congrArg (List.drop 1) Ou
  simpa [List.drop_drop,Nat.add_comm,Nat.add_assoc,Nat.add_left_comm] using this
 ·rw [List.take_set,List.set_eq_of_length_le (by simp;omega)];exact hft
 ·have hue:us[j+i]=u:=by rw [List.getElem?_eq_getElem hj] at hu2;exact Option.some.inj hu2
  rw [show j+(i+1)=j+i+1 from by omega,aK _ _ _ (by omega),aw us (j+i) (by omega),aw vs i hi,Nat.pow_succ,Nat.pow_add,hue]
  exact g4
theorem Jq {ks us:List Nat}{j t a:Nat}(h1:ks.take j=us.take j)(hk:j<=ks.length)(hu:j<=us.length)(h:val ks+4294967296^j*a=val us+4294967296^j*t):val (ks.drop j)+a=val (us.drop j)+t:=by
 have a3:=bu ks j hk
 have a4:=bu us j hu
 rw [h1] at a3
 have:4294967296^j*(val (ks.drop j)+a)=4294967296^j*(val (us.drop j)+t):=by rw [Nat.mul_add,Nat.mul_add];omega
 exact Nat.eq_of_mul_eq_mul_left (Nat.pow_pos (by omega)) this
theorem Cb.fin {us vs:List Nat}{j G b c:Nat}{fs:List Nat}(h:Cb us vs j G vs.length b c fs)(H2:bN us)(hj:j+vs.length<us.length)(hz:val (us.drop (j+vs.length+1))=0) :
  ∃u ob od:Nat,fs[j+vs.length]?=some u /\
   (u64.wrap (u64.wrap (u64.wrap (u:Int)-(c:Int))-(b:Int))).fdiv (2^63)=(ob:Int) /\
   u32.wrap (u64.wrap (u64.wrap (u64.wrap (u:Int)-(c:Int))-(b:Int)))=(od:Int)/\od<4294967296/\ob<=1 /\
   bN (fs.set (j+vs.length) od)/\(fs.set (j+vs.length) od).length=us.length/\(fs.set (j+vs.length) od).take j=us.take j/\val ((fs.set (j+vs.length) od).drop (j+vs.length+1))=0 /\
   val ((fs.set (j+vs.length) od).drop j)+G*val vs=val (us.drop j)+4294967296^(vs.length+1)*ob:=by
 obtain ⟨u,hu1,hu2⟩:=h.read hj
 obtain ⟨hb1,hc1,-,hfs,hdf,Ou,hft,hfe⟩:=h
 have QL:u<4294967296:=H2 u (List.mem_of_getElem? hu2)
 have hue:us[j+vs.length]=u:=by rw [List.getElem?_eq_getElem hj] at hu2;exact Option.some.inj hu2
 rw [List.take_length] at hfe
 have hst:=Al (g:=G) (d:=0) (Y:=val vs) (x:=((u:Int)-((c+G*0)%4294967296:Nat)-b)%18446744073709551616) hfe hc1 hb1 QL rfl
 simp only [Nat.mul_zero,Nat.add_zero] at hst
 rw [Nat.mod_eq_of_lt hc1,Nat.div_eq_of_lt hc1,Nat.zero_add] at hst
 have hxw:u64.wrap (u64.wrap (u64.wrap (u:Int)-(c:Int))-(b:Int))=((u:Int)-(c:Int)-b)%18446744073709551616:=by
  rw [aO (x:=(u:Int)) (by omega),rm,rm]
  omega
 generalize ((u:Int)-(c:Int)-b)%18446744073709551616=xx at *
 obtain ⟨g1,g2,g3,g4⟩:=hst
 obtain ⟨ob,QC⟩:∃ob:Nat,xx / 9223372036854775808=ob:=⟨(xx / 9223372036854775808).toNat,by omega⟩
 obtain ⟨od,hod⟩:∃od:Nat,xx%4294967296=od:=⟨(xx%4294967296).toNat,by omega⟩
 rw [QC,hod] at g4
 simp only [Int.toNat_natCast] at g4
 have Fb:od<4294967296:=by omega
 have OD:ob<=1:=by omega
 obtain ⟨ks,hks⟩:∃ks,ks=fs.set (j+vs.length) od:=⟨_,rfl⟩
 refine ⟨u,ob,od,hu1,by rw [hxw,KM,QC],by rw [hxw,iB,hod],Fb,OD,?_⟩
 rw [←hks]
 have hkl:ks.length=us.length:=by rw [hks];simpa using hfs
 have hkd:bN ks:=by rw [hks];exact hdf.set _ _ Fb
 have hkt:ks.take j=us.take j:=by rw [hks,List.take_set,List.set_eq_of_length_le (by simp;omega)];exact hft
 have hkz:ks.drop (j+vs.length+1)=us.drop (j+vs.length+1):=by
  rw [hks,List.drop_set_of_lt (by omega)]
  have:=congrArg (List.drop 1) Ou
  simpa [List.drop_drop,Nat.add_comm,Nat.add_assoc,Nat.add_left_comm] using this
 refine ⟨hkd,hkl,hkt,by rw [hkz];exact hz,Jq hkt (by omega) (by omega) ?_⟩
 have a1:=bu ks (j+vs.length+1) (by omega)
 have a2:=bu us (j+vs.length+1) (by omega)
 have a5:val (ks.take (j+vs.length+1))=val (fs.take (j+vs.length))+4294967296^j*4294967296^vs.length*od:=by rw [hks,aK _ _ _ (by omega),Nat.pow_add]
 have a6:val (us.take (j+vs.length+1))=val (us.take (j+vs.length))+4294967296^j*4294967296^vs.length*u:=by rw [aw us (j+vs.length) (by omega),Nat.pow_add,hue]
 rw [hkz,hz,Nat.mul_zero,Nat.add_zero] at a1
 rw [hz,Nat.mul_zero,Nat.add_zero] at a2
 have e9:4294967296^j*(4294967296^vs.length*4294967296)*ob=4294967296^j*(4294967296^(vs.length+1)*ob):=by rw [Nat.pow_succ];grind
 rw [e9] at g4
 omega
structure B8 (ks vs:List Nat) (j i c:Nat) (gs:List Nat):Prop where
 c1:c<=1
 hi:i<=vs.length
 len:gs.length=ks.length
 cZ:bN gs
 dr:gs.drop (j+i)=ks.drop (j+i)
 tk:gs.take j=ks.take j
 eq:val (gs.take (j+i))+4294967296^j*4294967296^i*c=val (ks.take (j+i))+4294967296^j*val (vs.take i)
theorem B8.read {ks vs:List Nat}{j i c:Nat}{gs:List Nat}(h:B8 ks vs j i c gs)(hj:j+i<ks.length):∃u,gs[j+i]?=some u/\ks[j+i]?=some u:=by
 have:=congrArg (fun l=>l[0]?) h.dr
 simp only [List.getElem?_drop,Nat.add_zero] at this
 exact ⟨ks[j+i],by rw [this,List.getElem?_eq_getElem hj],List.getElem?_eq_getElem hj⟩
theorem B8.step {ks vs:List Nat}{j i c:Nat}{gs:List Nat}(h:B8 ks vs j i c gs)(hdv:bN vs)(hdk:bN ks)(hi:i<vs.length)(hj:j+i<ks.length) :
  ∃u d od cn cb:Nat,vs[i]?=some d/\gs[j+i]?=some u/\u64.wrap ((c:Int)+u64.wrap (u64.wrap (u:Int)+u64.wrap (d:Int)))=(cn:Int)/\(cn:Int).fdiv (2^32)=(cb:Int) /\
   u32.wrap (cn:Int)=(od:Int)/\B8 ks vs j (i+1) cb (gs.set (j+i) od):=by
 obtain ⟨u,hu1,hu2⟩:=h.read hj
 obtain ⟨hc1,-,hfs,hdf,Ou,hft,hfe⟩:=h
 have hdd:=hdv.get (i:=i) hi
 have QL:u<4294967296:=hdk u (List.mem_of_getElem? hu2)
 have hue:ks[j+i]=u:=by rw [List.getElem?_eq_getElem hj] at hu2;exact Option.some.inj hu2
 obtain ⟨t5,ZS⟩:∃t5,t5=c+u+vs[i]:=⟨_,rfl⟩
 have hst:=yW hfe ZS
 have hcn:u64.wrap ((c:Int)+u64.wrap (u64.wrap (u:Int)+u64.wrap ((vs[i]:Nat):Int)))=(t5:Int):=by
  rw [aO (x:=((vs[i]:Nat):Int)) (by omega),aO (x:=(u:Int)) (by omega),aO (x:=(u:Int)+_) (by omega),aO (by omega)]
  omega
 refine ⟨u,vs[i],t5%4294967296,t5,t5 / 4294967296,List.getElem?_eq_getElem hi,hu1,hcn,by rw [fP],by rw [iB];omega,by omega,hi,by simpa using hfs,hdf.set _ _ (by omega),?_,?_,?_⟩
 ·rw [List.drop_set_of_lt (by omega)]
  have:=congrArg (List.drop 1) Ou
  simpa [List.drop_drop,Nat.add_comm,Nat.add_assoc,Nat.add_left_comm] using this
 ·rw [List.take_set,List.set_eq_of_length_le (by simp;omega)];exact hft
 ·rw [show j+(i+1)=j+i+1 from by omega,aK _ _ _ (by omega),aw ks (j+i) (by omega),aw vs i hi,Nat.pow_succ,Nat.pow_add,hue]
  exact hst
theorem B8.fin {ks vs:List Nat}{j c:Nat}{gs:List Nat}(h:B8 ks vs j vs.length c gs)(hdk:bN ks)(hj:j+vs.length<ks.length)(hz:val (ks.drop (j+vs.length+1))=0) :
  ∃u od kp:Nat,gs[j+vs.length]?=some u/\u32.wrap ((u:Int)+u32.wrap (c:Int))=(od:Int)/\kp<=1 /\
   bN (gs.set (j+vs.length) od)/\(gs.set (j+vs.length) od).length=ks.length/\(gs.set (j+vs.length) od).take j=ks.take j/\val ((gs.set (j+vs.length) od).drop (j+vs.length+1))=0 /\
   val ((gs.set (j+vs.length) od).drop j)+4294967296^(vs.length+1)*kp=val (ks.drop j)+val vs:=by
 obtain ⟨u,hu1,hu2⟩:=h.read hj
 obtain ⟨hc1,-,hfs,hdf,Ou,hft,hfe⟩:=h
 have QL:u<4294967296:=hdk u (List.mem_of_getElem? hu2)
 have hue:ks[j+vs.length]=u:=by rw [List.getElem?_eq_getElem hj] at hu2;exact Option.some.inj hu2
 rw [List.take_length] at hfe
 have hst:=yW (d:=0) (u:=u) (Y:=val vs) (t:=c+u) hfe (by omega)
 simp only [Nat.mul_zero,Nat.add_zero] at hst
 have Fb:(c+u)%4294967296<4294967296:=by omega
 have hkp:(c+u) / 4294967296<=1:=by omega
 have hw:u32.wrap ((u:Int)+u32.wrap (c:Int))=(((c+u)%4294967296:Nat):Int):=by
  rw [qf (x:=(c:Int)) (by omega),iB];omega
 generalize (c+u)%4294967296=od at *
 generalize (c+u) / 4294967296=kp at *
 obtain ⟨hs,PH⟩:∃hs,hs=gs.set (j+vs.length) od:=⟨_,rfl⟩
 refine ⟨u,od,kp,hu1,hw,hkp,?_⟩
 rw [←PH]
 have hkl:hs.length=ks.length:=by rw [PH];simpa using hfs
 have hkd:bN hs:=by rw [PH];exact hdf.set _ _ Fb
 have hkt:hs.take j=ks.take j:=by rw [PH,List.take_set,List.set_eq_of_length_le (by simp;omega)];exact hft
 have hkz:hs.drop (j+vs.length+1)=ks.drop (j+vs.length+1):=by
  rw [PH,List.drop_set_of_lt (by omega)]
  have:=congrArg (List.drop 1) Ou
  simpa [List.drop_drop,Nat.add_comm,Nat.add_assoc,Nat.add_left_comm] using this
 refine ⟨hkd,hkl,hkt,by rw [hkz];exact hz,Jq hkt (by omega) (by omega) ?_⟩
 have a1:=bu hs (j+vs.length+1) (by omega)
 have a2:=bu ks (j+vs.length+1) (by omega)
 have a5:val (hs.take (j+vs.length+1))=val (gs.take (j+vs.length))+4294967296^j*4294967296^vs.length*od:=by rw [PH,aK _ _ _ (by omega),Nat.pow_add]
 have a6:val (ks.take (j+vs.length+1))=val (ks.take (j+vs.length))+4294967296^j*4294967296^vs.length*u:=by rw [aw ks (j+vs.length) (by omega),Nat.pow_add,hue]
 rw [hkz,hz,Nat.mul_zero,Nat.add_zero] at a1
 rw [hz,Nat.mul_zero,Nat.add_zero] at a2
 have e9:4294967296^j*(4294967296^vs.length*4294967296)*kp=4294967296^j*(4294967296^(vs.length+1)*kp):=by rw [Nat.pow_succ];grind
 rw [e9] at hst
 omega
structure GK (v1 v2 v' u0 u1 u2 t' B T Y:Nat):Prop where
 hY:Y=(v1*4294967296+v2)*B+v'
 hT:T=((u0*4294967296+u1)*4294967296+u2)*B+t'
 vx:v'<B
 CV:t'<B
 VS:2147483648<=v1
 Ya:v1<4294967296
 VT:v2<4294967296
 u0u:u0<4294967296
 u1u:u1<4294967296
 X8:u2<4294967296
 lt:T<4294967296*Y
structure GI (v1 f T Y G ρ:Nat):Prop where
 r:ρ<4294967296
 g:G<=4294967297
 eq:G*v1+ρ=f
 lt:T<(G+1)*Y
structure GF (T Y G:Nat):Prop where
 g:G<4294967296
 lt:T<(G+1)*Y
 gt:G*Y<T+Y
section
variable {v1 v2 v' u0 u1 u2 t' B T Y G ρ:Nat}
theorem GK.start (h:GK v1 v2 v' u0 u1 u2 t' B T Y):GI v1 (u0*4294967296+u1) T Y ((u0*4294967296+u1) / v1) ((u0*4294967296+u1)%v1):=by
 have htop:=zR h.hY h.hT h.vx h.lt
 have h1:=h.VS
 have h2:=h.Ya
 have h3:=h.VT
 have E_:=Nat.div_add_mod (u0*4294967296+u1) v1
 have hml:=Nat.mod_lt (u0*4294967296+u1) (show 0<v1 by omega)
 refine ⟨by omega,?_,by rw [Nat.mul_comm];exact E_,?_⟩
 ·have:(u0*4294967296+u1) / v1<4294967298:=by
   rw [Nat.div_lt_iff_lt_mul (by omega)];omega
  omega
 ·rw [Nat.mul_comm] at E_
  exact JH h.hY h.hT h.CV h.X8 E_ hml
theorem GK.Nk (h:GK v1 v2 v' u0 u1 u2 t' B T Y)(hG:4294967296<=G):T<G*Y:=Nat.lt_of_lt_of_le h.lt (Nat.mul_le_mul_right _ hG)
theorem GK.dec (h:GK v1 v2 v' u0 u1 u2 t' B T Y)(hi:GI v1 (u0*4294967296+u1) T Y G ρ)(hd:ρ*4294967296+u2<G*v2):T<G*Y:=HW h.hY h.hT h.CV hi.eq hd
theorem GK.last (h:GK v1 v2 v' u0 u1 u2 t' B T Y)(hi:GI v1 (u0*4294967296+u1) T Y G ρ)(hG:G<4294967296)(hd:G*v2<=ρ*4294967296+u2):GF T Y G:=
 ⟨hG,hi.lt,zQ h.hY h.hT h.vx (by have:=h.VS;omega) (by omega) hi.eq hd (by omega)⟩
theorem GK.down (h:GK v1 v2 v' u0 u1 u2 t' B T Y)(hi:GI v1 (u0*4294967296+u1) T Y G ρ)(h1:T<G*Y):1<=G/\(G-1)*v1+(ρ+v1)=u0*4294967296+u1/\T<(G-1+1)*Y:=by
 have hG1:1<=G:=by
  rcases Nat.eq_zero_or_pos G with e0|e0
  ·subst e0;omega
  ·exact e0
 have:=hi.eq
 refine ⟨hG1,?_,by rw [Nat.sub_add_cancel hG1];exact h1⟩
 have:G*v1=(G-1)*v1+v1:=by conv=>lhs;rw [←Nat.sub_add_cancel hG1,Nat.add_mul,Nat.one_mul]
 omega
theorem GK.Nm (h:GK v1 v2 v' u0 u1 u2 t' B T Y)(hi:GI v1 (u0*4294967296+u1) T Y G ρ)(h1:T<G*Y)(h2:4294967296<=ρ+v1):1<=G/\GF T Y (G-1):=by
 obtain ⟨hG1,Ow,hlt⟩:=h.down hi h1
 have htop:=zR h.hY h.hT h.vx h.lt
 have g1:=h.VT
 have g2:=h.VS
 have g3:=hi.g
 have h3:G-1<4294967296:=by
  rcases Nat.lt_or_ge (G-1) 4294967296 with hc|hc
  ·exact hc
  ·have:=Nat.mul_le_mul_right v1 hc
   omega
 refine ⟨hG1,h3,hlt,zQ h.hY h.hT h.vx (by omega) (by omega) Ow ?_ (by omega)⟩
 have h4:(G-1)*v2<=4294967295*4294967295:=Nat.mul_le_mul (by omega) (by omega)
 omega
theorem GK.Nn (h:GK v1 v2 v' u0 u1 u2 t' B T Y)(hi:GI v1 (u0*4294967296+u1) T Y G ρ)(h1:T<G*Y)(h2:ρ+v1<4294967296):1<=G/\GI v1 (u0*4294967296+u1) T Y (G-1) (ρ+v1):=by
 obtain ⟨hG1,Ow,hlt⟩:=h.down hi h1
 have g3:=hi.g
 exact ⟨hG1,h2,by omega,Ow,hlt⟩
theorem GK.words (h:GK v1 v2 v' u0 u1 u2 t' B T Y) :
  bz .or .u64 (u64.wrap (u64.wrap (u0:Int)*2^32)) (u64.wrap (u1:Int))=((u0*4294967296+u1:Nat):Int) /\
  u64.wrap (((u0*4294967296+u1:Nat):Int).tdiv (v1:Int))=(((u0*4294967296+u1) / v1:Nat):Int) /\
  ((u0*4294967296+u1:Nat):Int).tmod (v1:Int)=(((u0*4294967296+u1)%v1:Nat):Int):=by
 have h0:=h.u0u
 have h1:=h.u1u
 have e3:((2:Int)^32)=4294967296:=by decide
 refine ⟨?_,?_,?_⟩
 ·rw [e3,aO (x:=(u0:Int)) (by omega),aO (x:=(u1:Int)) (by omega),aO (by omega),Dr _ _ h0 h1];omega
 ·rw [Int.tdiv_eq_ediv_of_nonneg (by omega),←Int.natCast_ediv]
  have h9:(u0*4294967296+u1) / v1<=u0*4294967296+u1:=Nat.div_le_self _ _
  generalize (u0*4294967296+u1) / v1=qq at *
  rw [aO (by omega)]
 ·rw [Int.tmod_eq_emod_of_nonneg (by omega),←Int.natCast_emod]
theorem GK.Po (h:GK v1 v2 v' u0 u1 u2 t' B T Y)(hi:GI v1 (u0*4294967296+u1) T Y G ρ) :
  u64.wrap ((G:Int)*(v2:Int))=((G*v2:Nat):Int)/\bz .or .u64 (u64.wrap ((ρ:Int)*2^32)) (u64.wrap (u2:Int))=((ρ*4294967296+u2:Nat):Int) /\
  u64.wrap ((ρ:Int)+v1)=((ρ+v1:Nat):Int)/\(1<=G->u64.wrap ((G:Int)-1)=((G-1:Nat):Int)):=by
 have h0:=h.X8
 have h1:=hi.r
 have h2:=hi.g
 have h3:=h.VT
 have h4:=h.Ya
 have e3:((2:Int)^32)=4294967296:=by decide
 refine ⟨?_,?_,?_,?_⟩
 ·have h4:G*v2<=4294967297*4294967295:=Nat.mul_le_mul h2 (by omega)
  rw [←Int.natCast_mul,aO (by omega)]
 ·rw [e3,aO (x:=(ρ:Int)*4294967296) (by omega),aO (by omega),Dr _ _ h1 h0];omega
 ·rw [aO (by omega)];omega
 ·intro h;rw [aO (by omega)];omega
end
end Go.Proofs.Tryz
namespace Go.Proofs.Tryz
open Go.bE Go.dP
structure OI (X Y n n8:Nat) (j:Int) (us qs:List Nat):Prop where
 j0:-1<=j
 j1:j<(n+1-n8:Nat)
 ul:us.length=n+1
 ud:bN us
 ql:qs.length=n+1-n8
 qd:bN qs
 eq:X=val us+Y*(4294967296^(j+1).toNat*val (qs.drop (j+1).toNat))
 lt:val (us.drop (j+1).toNat)<Y
structure DK (Y n8 k v1 v2:Nat):Prop where
 Uy:n8=k+2
 len:(ag Y).length=n8
 g1:(ag Y)[k+1]?=some v1
 g2:(ag Y)[k]?=some v2
 l1:2147483648<=v1
 u1:v1<4294967296
 u2:v2<4294967296
 eq:Y=(v1*4294967296+v2)*4294967296^k+val ((ag Y).take k)
 lt:val ((ag Y).take k)<4294967296^k
 top:Y<4294967296^n8
theorem DK.of {Y n8:Nat}(hl:(ag Y).length=n8)(h2:2<=n8)(ht:2147483648*4294967296^(n8-1)<=Y):∃k v1 v2,DK Y n8 k v1 v2:=by
 obtain ⟨k,hk⟩:∃k,n8=k+2:=⟨n8-2,by omega⟩
 have hYs:=VO (us:=ag Y) (k:=k) (by omega)
 rw [ae] at hYs
 have vx:=eL ((aH Y).take k)
 rw [List.length_take,Nat.min_eq_left (by omega)] at vx
 have Ul:=(aH Y).get (i:=k+1) (by omega)
 have Um:=(aH Y).get (i:=k) (by omega)
 have hv1:2147483648<=(ag Y)[k+1]:=by
  rcases Nat.lt_or_ge (ag Y)[k+1] 2147483648 with hc|hc
  ·exfalso
   have a1:((ag Y)[k+1]*4294967296+(ag Y)[k])+1<=2147483648*4294967296:=by omega
   have a2:=Nat.mul_le_mul_right (4294967296^k) a1
   rw [Nat.add_mul,Nat.one_mul] at a2
   have a3:2147483648*4294967296^(k+1)=2147483648*4294967296*4294967296^k:=by rw [Nat.pow_succ];grind
   rw [show n8-1=k+1 from by omega,a3] at ht
   omega
  ·exact hc
 exact ⟨k,_,_,hk,hl,List.getElem?_eq_getElem _,List.getElem?_eq_getElem _,hv1,Ul,Um,hYs,vx,by rw [←hl,←aI];exact Nat.le_refl _⟩
theorem OI.start {x X Y n n8 s:Nat}(hX:X=x*2^s)(hx:(ag x).length=n)(hs:s<32)(Uy:2<=n8)(hn:n8<=n)(hY:2147483648*4294967296^(n8-1)<=Y)(hXl:(ag X).length<=n+1) :
  OI X Y n n8 (((n+1-n8:Nat):Int)-1) ((ag X++[0,0]).take (n+1)) (List.replicate (n+1-n8) 0):=by
 have ZN:n<=(ag X).length:=by rw [←hx,hX];exact aD (Nat.le_mul_of_pos_right _ (Nat.two_pow_pos s))
 have QJ:((ag X++[0,0]).take (n+1)).length=n+1:=by simp;omega
 have huv:val ((ag X++[0,0]).take (n+1))=X:=by
  have a1:val (ag X++[0,0])=X:=by rw [dD,ae];simp
  have a2:=bu (ag X++[0,0]) (n+1) (by simp;omega)
  have a3:val ((ag X++[0,0]).drop (n+1))=0:=by
   refine h_ ?_ (by simp;omega)
   rw [a1]
   exact aI.1 (by omega)
  rw [a3,Nat.mul_zero,Nat.add_zero,a1] at a2
  exact a2.symm
 have a0:(((n+1-n8:Nat):Int)-1+1).toNat=n+1-n8:=by omega
 refine ⟨by omega,by omega,QJ,(bN.append.2 ⟨aH X,by simp [bN]⟩).take _,by simp,bN.rep _,?_,?_⟩
 ·rw [a0,List.drop_of_length_le (by simp),eF,Nat.mul_zero,Nat.mul_zero,Nat.add_zero,huv]
 ·rw [a0]
  have a1:=bu ((ag X++[0,0]).take (n+1)) (n+1-n8) (by omega)
  rw [huv] at a1
  have hXlt:X<4294967296^n*2^s:=by rw [hX];exact Nat.mul_lt_mul_of_pos_right (by rw [←hx];exact aI.1 (Nat.le_refl _)) (Nat.two_pow_pos s)
  have Xx:2^s<=2^31:=Nat.pow_le_pow_right (by omega) (by omega)
  have a2:4294967296^n*2^s<=4294967296^(n+1-n8)*Y:=by
   have b1:4294967296^n=4294967296^(n+1-n8)*4294967296^(n8-1):=by rw [←Nat.pow_add];congr 1;omega
   rw [b1,Nat.mul_assoc]
   refine Nat.mul_le_mul_left _ ?_
   have b2:2^s*4294967296^(n8-1)<=2147483648*4294967296^(n8-1):=Nat.mul_le_mul_right _ (by omega)
   rw [Nat.mul_comm]
   omega
  have a3:4294967296^(n+1-n8)*val (((ag X++[0,0]).take (n+1)).drop (n+1-n8))<4294967296^(n+1-n8)*Y:=by omega
  exact Nat.lt_of_mul_lt_mul_left a3
theorem OI.body {X Y n n8 k v1 v2 j:Nat}{us qs:List Nat}(h:OI X Y n n8 (j:Int) us qs)(hd:DK Y n8 k v1 v2)(hjn:j+n8<=n) :
  val (us.drop (j+n8+1))=0/\∃u0 u1 u2 t',us[j+n8]?=some u0/\us[j+n8-1]?=some u1/\us[j+n8-2]?=some u2/\GK v1 v2 (val ((ag Y).take k)) u0 u1 u2 t' (4294967296^k) (val (us.drop j)) Y:=by
 obtain ⟨-,-,QK,H2,OE,PG,LX,Fg⟩:=h
 have hj2:((j:Int)+1).toNat=j+1:=by omega
 rw [hj2] at LX Fg
 have hk:=hd.Uy
 have Zz:=hd.top
 have hT1:val (us.drop j)=us[j]+4294967296*val (us.drop (j+1)):=by rw [List.drop_eq_getElem_cons (by omega),bq]
 have huj:=H2.get (i:=j) (by omega)
 have hz:val (us.drop (j+n8+1))=0:=by
  have:=h_ (us:=us.drop (j+1)) (k:=n8) (by omega) (by simp;omega)
  rw [List.drop_drop] at this
  rw [show j+n8+1=j+1+n8 from by omega];exact this
 have CV:=eL ((H2.drop j).take k)
 rw [List.length_take,List.length_drop,Nat.min_eq_left (by omega)] at CV
 refine ⟨hz,us[j+n8],us[j+n8-1],us[j+n8-2],val ((us.drop j).take k),List.getElem?_eq_getElem _,List.getElem?_eq_getElem _,List.getElem?_eq_getElem _,
  hd.eq,?_,hd.lt,CV,hd.l1,hd.u1,hd.u2,H2.get _,H2.get _,H2.get _,by omega⟩
 have:=VQ (us:=us.drop j) (k:=k) (by simp;omega) (by rw [List.drop_drop,show j+(k+3)=j+n8+1 from by omega];exact hz)
 simp only [List.getElem_drop] at this
 rw [this]
 congr<;>omega
theorem OI.next {X Y n n8 j H:Nat}{us qs hs:List Nat}(h:OI X Y n n8 (j:Int) us qs)(hjn:j+n8<=n)(h1:hs.length=us.length)(ZE:bN hs)(h2:hs.take j=us.take j)(h3:val (hs.drop j)+H*Y=val (us.drop j))(h4:val (hs.drop j)<Y)(hH:H<4294967296) :
  OI X Y n n8 ((j:Int)-1) hs (qs.set j H):=by
 obtain ⟨-,hj1,QK,H2,OE,PG,LX,Fg⟩:=h
 have hj2:((j:Int)+1).toNat=j+1:=by omega
 have XH:((j:Int)-1+1).toNat=j:=by omega
 rw [hj2] at LX
 refine ⟨by omega,by omega,by omega,ZE,by simpa using OE,PG.set _ _ hH,?_,by rw [XH];exact h4⟩
 have a1:=bu hs j (by omega)
 have a2:=bu us j (by omega)
 rw [h2] at a1
 rw [←h3] at a2
 rw [XH,List.drop_eq_getElem_cons (l:=qs.set j H) (by simp;omega),List.getElem_set_self,List.drop_set_of_lt (by omega),bq,LX,a1,a2,Nat.pow_succ]
 grind
theorem OI.done {x y X Y n n8 s:Nat}{us qs:List Nat}(h:OI X Y n n8 (-1) us qs)(hX:X=x*2^s)(hY:Y=y*2^s)(hn:n8<=n+1)(hYl:Y<4294967296^n8):val qs=x / y/\val (us.take n8) / 2^s=x%y:=by
 obtain ⟨-,-,QK,H2,OE,PG,LX,Fg⟩:=h
 have LX:X=val us+Y*val qs:=by simpa using LX
 have Fg:val us<Y:=by simpa using Fg
 have ZA:0<Y:=by omega
 have hzz:=h_ (us:=us) (k:=n8) (by omega) (by omega)
 have hut:val (us.take n8)=val us:=by
  have:=bu us n8 (by omega)
  rw [hzz,Nat.mul_zero,Nat.add_zero] at this
  exact this.symm
 constructor
 ·rw [←Nat.mul_div_mul_right x y (Nat.two_pow_pos s),←hX,←hY,LX,Nat.add_mul_div_left _ _ ZA,Nat.div_eq_of_lt Fg,Nat.zero_add]
 ·have:x*2^s%(y*2^s)=val us:=by
   rw [←hX,←hY,LX,Nat.add_mul_mod_self_left,Nat.mod_eq_of_lt Fg]
  rw [Nat.mul_mod_mul_right] at this
  rw [hut,←this,Nat.mul_div_cancel _ (Nat.two_pow_pos s)]
set_option maxHeartbeats 8000000 in
theorem ER {V:View}{p q:OA}{n c m e:Nat}{x y:Nat}(ha:RN V p n c x)(hb:RN V q m e y)(hn:n<=1099511627776)(hm2:2<=m)(hle:y<=x) :
  ab prog 232 #[.slice p n c,.slice q m e] V fun r V'=>∃p1 n1 c1 p2 n2 c2,r=.tuple #[.slice p1 n1 c1,.slice p2 n2 c2]/\RN V' p1 n1 c1 (x / y)/\RN V' p2 n2 c2 (x%y):=by
 have hla:=ha.len
 have hlb:=hb.len
 have hmn:m<=n:=by rw [hla,hlb];exact aD hle
 refine D8 p n c q m e V _ ?_
 simp (disch:=omega) only [aB]
 refine hb.rd (m-1) (by omega) (by omega) fun V1 l1=>(gi _ ((aH y).get (by omega))).mono ?_
 rintro r V2 l2 rfl
 refine ⟨_,rfl,?_⟩
 obtain ⟨t,ht⟩:∃t,t=(ag y)[m-1]'(by omega):=⟨_,rfl⟩
 rw [←ht]
 have hbl:bM t<=32:=jl.2 (by rw [ht];exact (aH y).get _)
 obtain ⟨s,hs⟩:∃s,s=32-bM t:=⟨_,rfl⟩
 have es:(32-(bM t:Int))=(s:Int):=by omega
 obtain ⟨Ma,hvl,UF⟩:=DM hlb.symm (by omega) ht hs
 rw [es,aO (by omega)]
 clear es hbl
 intro V3 l3
 refine (zz (ha.le (l1.trans (l2.trans l3))) (by omega) s (by omega)).mono ?_
 rintro r V4 l4 ⟨p4,n4,c4,rfl,h4,hc4⟩
 rw [ae] at h4 hc4
 have hx0:x≠0:=by
  intro e0;subst e0
  rw [zH] at hla
  simp at hla;omega
 have hc4:c4=n+1:=by
  rcases hc4 with e0|e0
  ·exact absurd e0 hx0
  ·rw [e0,←hla,Nat.div_eq_of_lt Ma]
 have hl4:=h4.len
 have hXlt:x*2^s<4294967296^n*2^s:=Nat.mul_lt_mul_of_pos_right (by rw [hla];exact aI.1 (Nat.le_refl _)) (Nat.two_pow_pos s)
 have Xx:2^s<=2^31:=Nat.pow_le_pow_right (by omega) (by omega)
 have ZN:n<=n4/\n4<=n+1:=by
  constructor
  ·rw [hl4,hla];exact aD (Nat.le_mul_of_pos_right _ (Nat.two_pow_pos s))
  ·rw [hl4,aI,Nat.pow_succ]
   have:4294967296^n*2^s<=4294967296^n*4294967296:=Nat.mul_le_mul_left _ (by omega)
   omega
 refine ⟨_,_,_,rfl,aG (ag (x*2^s)),h4.sl,by simp;omega,h4.cap,h4.J_,by omega,by omega,rfl,by simp [Value.oneCell'],?_⟩
 intro sp c7 ZC ZD
 refine ⟨⟨by omega,by omega⟩,fun V5 l5=>(zz (hb.le (l1.trans (l2.trans (l3.trans (l4.trans l5))))) (by omega) s (by omega)).mono ?_⟩
 rintro r V6 l6 ⟨p8,n8,c8,rfl,h8,-⟩
 rw [ae] at h8
 have XI:=h8.len
 rw [hvl] at XI
 subst XI
 refine ⟨_,_,_,rfl,?_⟩
 obtain ⟨k,v1,v2,LW⟩:=DK.of hvl hm2 UF
 have hk:=LW.Uy
 have hv1:=LW.l1
 have ZX:=LW.u1
 have ZY:=LW.u2
 have Zw:=OI.start (Y:=y*2^s) rfl hla.symm Ma hm2 hmn UF (by omega)
 have w6:i64.wrap ((n8:Int)-1)=(n8:Int)-1:=aB (by omega)
 have w7:i64.wrap ((n8:Int)-2)=(n8:Int)-2:=aB (by omega)
 simp only [w6,w7]
 refine h8.SW (k+1) (by omega) LW.g1 (h8.SW k (by omega) LW.g2 ?_)
 have hn1:((n:Int)+1).toNat=n+1:=by omega
 have hn2:(((n+1:Nat):Int)-(n8:Int)).toNat=n+1-n8:=by omega
 have w1:i64.wrap ((n:Int)+1)=(n:Int)+1:=aB (by omega)
 have w2:u64.wrap (v1:Int)=v1:=aO (by omega)
 have w3:u64.wrap (v2:Int)=v2:=aO (by omega)
 have w4:i64.wrap (((n+1:Nat):Int)-(n8:Int))=((n+1:Nat):Int)-(n8:Int):=aB (by omega)
 have w5:i64.wrap (((n+1-n8:Nat):Int)-1)=((n+1-n8:Nat):Int)-1:=aB (by omega)
 simp only [hn1,w2,w3,w4,hn2,w5,cN]
 obtain ⟨tl,htl⟩:∃tl,tl=aG ((ag (x*2^s)++[0,0]).drop (n+1))++sp:=⟨_,rfl⟩
 have hrow:aG (ag (x*2^s))++([.int .u32 0,.int .u32 0]:List Value)++sp=aG ((ag (x*2^s)++[0,0]).take (n+1))++tl:=by
  rw [htl,←List.append_assoc,←sG,List.take_append_drop,sG];rfl
 rw [hrow]
 clear htl hrow UF hXlt Xx hc4 hs ht
 generalize hX:x*2^s=X at *
 generalize hY:y*2^s=Y at *
 refine ⟨by omega,by omega,by omega,fun z V'=>∃us qs:List Nat,z.2.1=aG us++tl/\z.2.2=aG qs/\OI X Y n n8 z.1 us qs,fun z=>(z.1+1).toNat,
  ⟨(((n+1-n8:Nat):Int)-1,aG ((ag X++[0,0]).take (n+1))++tl,aG (List.replicate (n+1-n8) 0)),?_,_,_,rfl,rfl,Zw⟩,?_⟩
 ·(try dsimp only);and_intros<;>first|exact True.intro|rfl
 rintro ⟨j,row,qrow⟩ V7 l7 ⟨us,qs,rfl,rfl,hO⟩
 dsimp only at hO ⊢
 have hj0:=hO.j0
 have hj1:=hO.j1
 have QK:=hO.ul
 have OE:=hO.ql
 refine ⟨by trivial,fun h3=>?_,fun h3=>?_⟩
 ·have h3:0<=j:=by simpa using h3
  obtain ⟨j,rfl⟩:=Int.eq_ofNat_of_zero_le h3
  have hjn:j+n8<=n:=by omega
  obtain ⟨hz,u0,u1,u2,t',hu0,hu1,hu2,hK⟩:=hO.body LW hjn
  obtain ⟨eb,W3,W4⟩:=hK.words
  have w8:i64.wrap ((j:Int)+n8)=((j+n8:Nat):Int):=by rw [aB (by omega)];omega
  have w9:i64.wrap (((j+n8:Nat):Int)-1)=((j+n8-1:Nat):Int):=by rw [aB (by omega)];omega
  have VV:i64.wrap (((j+n8:Nat):Int)-2)=((j+n8-2:Nat):Int):=by rw [aB (by omega)];omega
  have ZI:i64.wrap ((j:Int)-1)=(j:Int)-1:=aB (by omega)
  simp only [w8,w9,VV,ZI,Int.toNat_natCast]
  refine ⟨⟨by omega,by omega⟩,_,iZ hu0,by omega,⟨by omega,by omega⟩,_,iZ hu1,by omega,by omega,?_⟩
  rw [eb,W3,W4]
  clear eb W3 W4
  refine ⟨fun g V'=>∃G:Nat,g=(G:Int)/\GF (val (us.drop j)) Y G,
   ⟨fun z V'=>∃G ρ:Nat,z=((G:Int),(ρ:Int))/\GI v1 (u0*4294967296+u1) (val (us.drop j)) Y G ρ,fun z=>z.1.toNat,
    ⟨((((u0*4294967296+u1) / v1:Nat):Int),(((u0*4294967296+u1)%v1:Nat):Int)),by (try dsimp only);and_intros<;>first|exact True.intro|rfl,_,_,rfl,hK.start⟩,?_⟩,?_⟩
  ·rintro _ V8 l8 ⟨G,ρ,rfl,Nq⟩
   obtain ⟨JL,hor,Ye,S4⟩:=hK.Po Nq
   dsimp only
   have t1:∀a:Nat,((((a / 2^32:Nat):Int) != 0)=true↔4294967296<=a)/\((((a / 2^32:Nat):Int) != 0)=false↔a<4294967296):=by
    intro a
    constructor
    ·rw [bne_iff_ne];omega
    ·rw [bne_eq_false_iff_eq];omega
   simp only [Ye,fP,(t1 _).1,(t1 _).2]
   refine ⟨by trivial,by omega,fun hc=>⟨by omega,fun hd=>?_,fun hd=>?_⟩,fun hc=>⟨by omega,⟨by omega,by omega⟩,_,iZ hu2,fun ht=>⟨by omega,fun hd=>?_,fun hd=>?_⟩,fun ht=>?_⟩⟩
   ·obtain ⟨g1,g2⟩:=hK.Nm Nq (hK.Nk hc) hd
    exact ⟨((G-1:Nat):Int),by rw [S4 g1];(try dsimp only);and_intros<;>first|exact True.intro|rfl,G-1,rfl,g2⟩
   ·obtain ⟨g1,g2⟩:=hK.Nn Nq (hK.Nk hc) hd
    exact ⟨(((G-1:Nat):Int),((ρ+v1:Nat):Int)),by (try dsimp only);omega,by rw [S4 g1];(try dsimp only);and_intros<;>first|exact True.intro|rfl,G-1,ρ+v1,rfl,g2⟩
   ·have h1:=hK.dec Nq (by rw [JL,hor,decide_eq_true_eq] at ht;omega)
    obtain ⟨g1,g2⟩:=hK.Nm Nq h1 hd
    exact ⟨((G-1:Nat):Int),by rw [S4 g1];(try dsimp only);and_intros<;>first|exact True.intro|rfl,G-1,rfl,g2⟩
   ·have h1:=hK.dec Nq (by rw [JL,hor,decide_eq_true_eq] at ht;omega)
    obtain ⟨g1,g2⟩:=hK.Nn Nq h1 hd
    exact ⟨(((G-1:Nat):Int),((ρ+v1:Nat):Int)),by (try dsimp only);omega,by rw [S4 g1];(try dsimp only);and_intros<;>first|exact True.intro|rfl,G-1,ρ+v1,rfl,g2⟩
   ·have h1:G*v2<=ρ*4294967296+u2:=by rw [JL,hor,decide_eq_false_iff_not] at ht;omega
    exact ⟨(G:Int),by (try dsimp only);and_intros<;>first|exact True.intro|rfl,G,rfl,hK.last Nq hc h1⟩
  ·rintro _ V9 l9 ⟨G,rfl,hGF⟩
   have PE:=hGF.g
   clear hK hu0 hu1 hu2
   have hvl:=LW.len
   have hvs:=ae Y
   refine ⟨by trivial,fun z V'=>∃(b c i:Nat)(fs:List Nat),z=((b:Int),(c:Int),(i:Int),aG fs++tl)/\Cb us (ag Y) j G i b c fs,fun z=>n8-z.2.2.1.toNat,
     ⟨(0,0,0,aG us++tl),by (try dsimp only);and_intros<;>first|exact True.intro|rfl,0,0,0,us,rfl,by omega,by omega,by omega,rfl,hO.ud,rfl,rfl,by simp⟩,?_⟩
   rintro _ jG l10 ⟨b,c,i,fs,rfl,hS⟩
   dsimp only
   simp only [Int.toNat_natCast]
   have hi:=hS.hi
   have hfl:=hS.len
   refine ⟨by trivial,fun hc=>?_,fun hc=>?_⟩
   ·have hc:i<n8:=by simpa using hc
    obtain ⟨u,d,ob,od,cn,cb,q1,q2,q3,q4,q5,q6,q7,hS'⟩:=hS.step PE (aH Y) hO.ud (by omega) (by omega)
    refine (h8.le (l7.trans (l9.trans l10))).SW i rfl q1 ?_
    have w13:i64.wrap ((j:Int)+i)=((j+i:Nat):Int):=by rw [aB (by omega)];omega
    have w14:i64.wrap ((i:Int)+1)=((i+1:Nat):Int):=by rw [aB (by omega)];omega
    rw [q3,w13,w14,Int.toNat_natCast]
    refine ⟨⟨by omega,by omega⟩,_,iZ q2,⟨by omega,by omega⟩,by simp;omega,by omega,by omega,?_⟩
    rw [q4,q5,q6]
    refine ⟨((ob:Int),(cb:Int),((i+1:Nat):Int),aG (fs.set (j+i) od)++tl),by (try dsimp only);omega,?_,_,_,_,_,rfl,hS'⟩
    (try dsimp only);and_intros<;>first|exact True.intro|rfl|exact ua (by omega)
   ·have hc:i=(ag Y).length:=by simp at hc;omega
    subst hc
    obtain ⟨u,ob,od,q1,q2,q3,q4,q5,q6,q7,q8,q9,MC⟩:=hS.fin hO.ud (by omega) (by rw [hvl];exact hz)
    rw [hvl] at q1 q6 q7 q8 q9 MC
    rw [hvs] at MC
    refine ⟨⟨by omega,by omega⟩,_,iZ q1,⟨by omega,by omega⟩,by simp;omega,⟨by omega,by omega⟩,by simp;omega,by omega,?_⟩
    rw [q2,q3,ua (by omega),qf (x:=(G:Int)) (by omega)]
    generalize fs.set (j+n8) od=ks at *
    have QE:∀H:Nat,(aG qs).set (0+j*1) (.int .u32 (H:Int))=aG (qs.set j H):=by intro H;rw [Nat.zero_add,Nat.mul_one,bA]
    rw [QE]
    refine ⟨fun h0=>?_,fun h0=>?_⟩
    ·have h0:ob=0:=by simpa using h0
     rw [h0,Nat.mul_zero,Nat.add_zero] at MC
     have hlt:=hGF.lt
     rw [Nat.add_mul,Nat.one_mul] at hlt
     refine ⟨((j:Int)-1,aG ks++tl,aG (qs.set j G)),by (try dsimp only);omega,by (try dsimp only);and_intros<;>first|exact True.intro|rfl,ks,qs.set j G,rfl,rfl,?_⟩
     exact hO.next hjn q7 q6 q8 MC (by omega) PE
    ·have h0:ob=1:=by
      have:ob≠0:=by simpa using h0
      omega
     rw [h0,Nat.mul_one] at MC
     have Qy:∀ls:List Nat,ls.length=n+1->bN ls->val (ls.drop (j+n8+1))=0->val (ls.drop j)<4294967296^(n8+1):=by
      intro ls h1 h2 h3
      have a1:=bu (ls.drop j) (n8+1) (by simp;omega)
      rw [List.drop_drop,show j+(n8+1)=j+n8+1 from by omega,h3,Nat.mul_zero,Nat.add_zero] at a1
      have a2:=eL ((h2.drop j).take (n8+1))
      rw [List.length_take,List.length_drop,Nat.min_eq_left (by omega)] at a2
      omega
     have hk9:=Qy ks (by omega) q6 q9
     have hG1:1<=G:=by
      rcases Nat.eq_zero_or_pos G with e0|e0
      ·subst e0;omega
      ·exact e0
     have hGs:G*Y=(G-1)*Y+Y:=by conv=>lhs;rw [←Nat.sub_add_cancel hG1,Nat.add_mul,Nat.one_mul]
     have hGt:=hGF.gt
     have UG:u32.wrap ((G:Int)-1)=((G-1:Nat):Int):=by rw [qf (by omega)];omega
     refine ⟨⟨by omega,by omega⟩,(G:Int),by rw [Nat.zero_add,Nat.mul_one,fU (by simp;omega),List.getElem_set_self],⟨by omega,by omega⟩,by simp;omega,?_⟩
     have OG:(aG (qs.set j G)).set (0+j*1) (.int .u32 ((G-1:Nat):Int))=aG (qs.set j (G-1)):=by rw [Nat.zero_add,Nat.mul_one,bA,List.set_set]
     rw [UG,OG]
     refine ⟨fun z V'=>∃(c' i2:Nat)(gs:List Nat),z=((c':Int),(i2:Int),aG gs++tl)/\B8 ks (ag Y) j i2 c' gs,fun z=>n8-z.2.1.toNat,
      ⟨(0,0,aG ks++tl),by (try dsimp only);and_intros<;>first|exact True.intro|rfl,0,0,ks,rfl,by omega,by omega,rfl,q6,rfl,rfl,by simp⟩,?_⟩
     rintro _ jZ bI ⟨c',i2,gs,rfl,hA⟩
     dsimp only
     simp only [Int.toNat_natCast]
     have hi2:=hA.hi
     have hgl:=hA.len
     refine ⟨by trivial,fun hc=>?_,fun hc=>?_⟩
     ·have hc:i2<n8:=by simpa using hc
      obtain ⟨u,d,od,cn,cb,r1,r2,r3,r4,r5,hA'⟩:=hA.step (aH Y) q6 (by omega) (by omega)
      refine (h8.le (l7.trans (l9.trans (l10.trans bI)))).SW i2 rfl r1 ?_
      have w15:i64.wrap ((j:Int)+i2)=((j+i2:Nat):Int):=by rw [aB (by omega)];omega
      have w16:i64.wrap ((i2:Int)+1)=((i2+1:Nat):Int):=by rw [aB (by omega)];omega
      rw [w15,w16,Int.toNat_natCast]
      refine ⟨⟨by omega,by omega⟩,_,iZ r2,⟨by omega,by omega⟩,by simp;omega,by omega,?_⟩
      rw [r3,r4,r5]
      refine ⟨((cb:Int),((i2+1:Nat):Int),aG (gs.set (j+i2) od)++tl),by (try dsimp only);omega,?_,_,_,_,rfl,hA'⟩
      (try dsimp only);and_intros<;>first|exact True.intro|rfl|exact ua (by omega)
     ·have hc:i2=(ag Y).length:=by simp at hc;omega
      subst hc
      obtain ⟨u,od,kp,r1,r2,r3,r4,r5,r6,r7,r8⟩:=hA.fin q6 (by omega) (by rw [hvl];exact q9)
      rw [hvl] at r1 r4 r5 r6 r7 r8
      rw [hvs] at r8
      refine ⟨⟨by omega,by omega⟩,_,iZ r1,⟨by omega,by omega⟩,by simp;omega,?_⟩
      rw [r2,ua (by omega)]
      have hh9:=Qy _ (by omega) r4 r7
      generalize gs.set (j+n8) od=hs at *
      have Uu:kp=1:=by
       rcases Nat.eq_zero_or_pos kp with e0|e0
       ·rw [e0,Nat.mul_zero] at r8;omega
       ·omega
      rw [Uu,Nat.mul_one] at r8
      refine ⟨((j:Int)-1,aG hs++tl,aG (qs.set j (G-1))),by (try dsimp only);omega,by (try dsimp only);and_intros<;>first|exact True.intro|rfl,hs,qs.set j (G-1),rfl,rfl,?_⟩
      exact hO.next hjn (by omega) r4 (by rw [r6,q8]) (by omega) (by omega) (by omega)
 ·have h3:j=-1:=by simp at h3;omega
  subst h3
  obtain ⟨hq,hr⟩:=hO.done hX.symm hY.symm (by omega) LW.top
  have PG:=hO.qd
  have H2:=hO.ud
  intro V8 l8 bk1 bk2 hb1 hb2 J
  have ZQ:RD V8 (some ⟨bk2,0,none⟩) n8 c7 (us.take n8):=by
   refine ⟨by simp;omega,by omega,fun i v hv=>⟨_,rfl,?_⟩,H2.take n8,fun e0=>nomatch e0⟩
   rw [add_zero']
   refine eH hb2 ?_
   rw [An,List.getElem?_take] at hv
   split at hv
   ·rename_i hlt
    rw [List.getElem?_append_left (by simp;omega)];exact hv
   ·cases hv
  refine ⟨⟨by omega,by omega⟩,fun V9 l9=>?_⟩
  refine (aV (RD.bG (ds:=qs) hb1 PG (n:=n+1-n8) (c:=n+1-n8) (by omega) (Nat.le_refl _) |>.le l9) (by omega)).mono ?_
  rintro r jG l10 ⟨k1,rfl,g1⟩
  refine ⟨_,_,_,rfl,fun jZ bI=>?_⟩
  rw [Int.toNat_natCast]
  refine (HD (ZQ.le (l9.trans (l10.trans bI))) (by simp;omega) s (by omega)).mono ?_
  rintro r mQ bV ⟨p2,n2,c2,rfl,g2⟩
  refine ⟨_,_,_,rfl,fun qv cC=>⟨_,_,_,_,_,_,rfl,?_,?_⟩⟩
  ·rw [aN PG] at g1
   unfold RN
   rw [←hq];exact g1.le (bI.trans (bV.trans cC))
  ·rw [hr] at g2
   exact g2.le cC
theorem kM {V:View}{p q:OA}{n c m e:Nat}{xa xb:List Nat}(ha:RD V p n c xa)(hb:RD V q m e xb)(hm:xa.length<=1099511627776)(hn:xb.length<=1099511627776)(h0:val xb≠0) :
  ab prog 219 #[.slice p n c,.slice q m e] V fun r V'=>∃p1 n1 c1 p2 n2 c2,r=.tuple #[.slice p1 n1 c1,.slice p2 n2 c2,.bool true]/\RN V' p1 n1 c1 (val xa / val xb)/\RN V' p2 n2 c2 (val xa%val xb):=by
 have la:=bh ha.cZ
 have lb:=bh hb.cZ
 refine yy p n c q m e V _ fun V1 l1=>(aV (ha.le l1) (by omega)).mono ?_
 rintro r V2 l2 ⟨n,rfl,hx⟩
 rw [aN ha.cZ] at hx
 refine ⟨_,_,_,rfl,fun V3 l3=>(aV (hb.le (l1.trans (l2.trans l3))) (by omega)).mono ?_⟩
 rintro r V4 l4 ⟨m,rfl,hy⟩
 rw [aN hb.cZ] at hy
 replace hx:=hx.le (l3.trans l4)
 generalize val xa=x at *
 generalize val xb=y at *
 have hlx:=hx.len
 have zT:=hy.len
 refine ⟨_,_,_,rfl,fun h1=>?_,fun h1 V6 l6=>(zx (hx.le l6) (hy.le l6) (by omega) (by omega)).mono ?_⟩
 ·exfalso
  have:ag y=[]:=List.length_eq_zero_iff.1 (by simp at h1;omega)
  exact h0 (bg.1 this)
 rintro r V7 l7 rfl
 rw [ae,ae]
 replace hx:=hx.le (l6.trans l7)
 replace hy:=hy.le (l6.trans l7)
 refine ⟨_,rfl,fun h2 V8 l8=>(ma (hx.le l8) (by omega)).mono ?_,fun h2=>⟨fun h3=>?_,fun h3 V8 l8=>?_⟩⟩
 ·rintro r V9 l9 ⟨p4,n4,c4,rfl,g1⟩
  have h2:x<y:=by simpa [fO] using h2
  refine ⟨_,_,_,rfl,fun jG l10=>⟨_,_,_,_,_,_,rfl,?_,?_⟩⟩
  ·rw [Nat.div_eq_of_lt h2];exact RD.nil
  ·rw [Nat.mod_eq_of_lt h2];exact g1.le l10
 ·have h3:m=1:=by simp at h3;omega
  subst h3
  refine hy.rd0 0 rfl (by omega) fun V8 l8=>?_
  have hd:=(aH y).get (i:=0) (by omega)
  have Z4:y=(ag y)[0]'(by omega):=by
   have e:=gJ (ag y) 0 (by omega)
   rw [ae,List.drop_of_length_le (by omega)] at e
   simpa using e
  rw [←Z4] at hd ⊢
  refine (Cu (hx.le l8) (by omega) y h0 hd).mono ?_
  rintro r V9 l9 ⟨p4,n4,c4,rfl,g1⟩
  rw [ae] at g1 ⊢
  have hmod:x%y<y:=Nat.mod_lt _ (by omega)
  refine ⟨_,_,_,_,rfl,fun jG l10=>?_⟩
  rw [aO (by omega)]
  refine (dR _ (by omega) (by omega)).mono ?_
  rintro r jZ bI ⟨p5,n5,c5,rfl,g2⟩
  exact ⟨_,_,_,rfl,fun mQ bV=>⟨_,_,_,_,_,_,rfl,g1.le (l10.trans (bI.trans bV)),g2.le bV⟩⟩
 ·have h2:y<=x:=by simpa [←Int.not_lt,fO] using h2
  have hm2:2<=m:=by
   have:¬(m:Int)=1:=by simpa using h3
   have:ag y≠[]:=fun e=>h0 (bg.1 e)
   have:(ag y).length≠0:=fun e=>this (List.length_eq_zero_iff.1 e)
   omega
  refine (ER (hx.le l8) (hy.le l8) (by omega) hm2 h2).mono ?_
  rintro r V9 l9 ⟨p4,n4,c4,p5,n5,c5,rfl,g1,g2⟩
  exact ⟨_,_,_,_,_,_,rfl,fun jG l10=>⟨_,_,_,_,_,_,rfl,g1.le l10,g2.le l10⟩⟩
theorem vo (x y:Nat):Nat.gcd y (x%y)=Nat.gcd x y:=by
 rw [Nat.gcd_comm x y,Nat.gcd_rec y x,Nat.gcd_comm]
theorem zy {V:View}{p q:OA}{n c m e:Nat}{xa xb:List Nat}(ha:RD V p n c xa)(hb:RD V q m e xb)(hm:xa.length<=1099511627776)(hn:xb.length<=1099511627776) :
  ab prog 210 #[.slice p n c,.slice q m e] V fun r V'=>∃p1 n1 c1,r=.slice p1 n1 c1/\RN V' p1 n1 c1 (Nat.gcd (val xa) (val xb)):=by
 have la:=bh ha.cZ
 have lb:=bh hb.cZ
 refine F2 p n c q m e V _ fun V1 l1=>(iR (ha.le l1) hm).mono ?_
 rintro r V2 l2 ⟨p1,n1,c1,rfl,hx⟩
 refine ⟨_,_,_,rfl,fun V3 l3=>(iR (hb.le (l1.trans (l2.trans l3))) hn).mono ?_⟩
 rintro r V4 l4 ⟨q1,m1,e1,rfl,hy⟩
 replace hx:=hx.le (l3.trans l4)
 refine ⟨_,_,_,rfl,fun z k V'=>∃x y:Nat,RN V' z.1 z.2.1 z.2.2.1 x/\RN V' z.2.2.2.1 z.2.2.2.2.1 z.2.2.2.2.2 y/\Nat.gcd x y=Nat.gcd (val xa) (val xb)/\k=y/\(ag x).length<=1099511627776/\(ag y).length<=1099511627776,
  ⟨(p1,n1,c1,q1,m1,e1),val xb,by (try dsimp only);and_intros<;>trivial,val xa,val xb,hx,hy,rfl,rfl,by omega,by omega⟩,?_⟩
 rintro ⟨p,n,c,q,m,e⟩ k V5 l5 ⟨x,y,hx,hy,hg,hk,hx1,hy1⟩
 dsimp only at hx hy ⊢
 have hlx:=hx.len
 have zT:=hy.len
 rw [←hg]
 have stop:m=0->y=0:=fun h=>bg.1 (List.length_eq_zero_iff.1 (by omega))
 have more:∀V7:View,V5.Le V7->m≠0->ab prog 219 #[.slice p n c,.slice q m e] V7 fun r V8=>∃p1 n1 c1 p2 n2 c2,r=.tuple #[.slice p1 n1 c1,.slice p2 n2 c2,.bool true]/\RN V8 p2 n2 c2 (x%y)/\x%y<y/\Nat.gcd y (x%y)=Nat.gcd (val xa) (val xb)/\(ag (x%y)).length<=1099511627776/\V7.Le V8:=by
  intro V7 l7 h
  have hy0:y≠0:=by
   intro e0;subst e0
   rw [zH] at zT;simp at zT;omega
  have hlt:x%y<y:=Nat.mod_lt _ (by omega)
  refine (kM (hx.le l7) (hy.le l7) hx1 hy1 (by rw [ae];exact hy0)).mono ?_
  rintro r V8 l8 ⟨p4,n4,c4,p5,n5,c5,rfl,g1,g2⟩
  rw [ae,ae] at g2
  exact ⟨_,_,_,_,_,_,rfl,g2,hlt,by rw [vo,hg],Nat.le_trans (aD (by omega)) hy1,l8⟩
 refine ⟨by trivial,fun h1=>⟨fun h2 V6 l6=>?_,fun h2 V7 l7=>(more V7 l7 ?_).mono ?_⟩,fun h1=>⟨fun h1'=>⟨fun h2 V6 l6=>?_,fun h2 V7 l7=>(more V7 l7 ?_).mono ?_⟩,fun h1' mQ bV=>?_⟩⟩
 ·rw [stop (by simp at h2;omega),Nat.gcd_zero_right]
  rw [stop (by simp at h2;omega)] at hg
  exact ⟨_,_,_,rfl,hx.le l6⟩
 ·simp at h2;omega
 ·rintro r V8 l8 ⟨p4,n4,c4,p5,n5,c5,rfl,g2,hlt,hg',hl',l9⟩
  exact ⟨_,_,_,_,_,_,_,rfl,(q,m,e,p5,n5,c5),x%y,(by omega),by (try dsimp only);and_intros<;>trivial,y,x%y,hy.le (l7.trans l9),g2,hg'.trans hg.symm,rfl,hy1,hl'⟩
 ·rw [stop (by simp at h2;omega),Nat.gcd_zero_right]
  exact ⟨_,_,_,rfl,hx.le l6⟩
 ·simp at h2;omega
 ·rintro r V8 l8 ⟨p4,n4,c4,p5,n5,c5,rfl,g2,hlt,hg',hl',l9⟩
  exact ⟨_,_,_,_,_,_,_,rfl,(q,m,e,p5,n5,c5),x%y,(by omega),by (try dsimp only);and_intros<;>trivial,y,x%y,hy.le (l7.trans l9),g2,hg'.trans hg.symm,rfl,hy1,hl'⟩
 ·have hn2:n<=2:=by simp at h1;omega
  have hm2:m<=2:=by simp at h1';omega
  have hx2:x<18446744073709551616:=(aI (k:=2)).1 (by omega)
  have hy2:y<18446744073709551616:=(aI (k:=2)).1 (by omega)
  refine (kN (hx.le bV) (by omega)).mono ?_
  rintro r qv cC rfl
  rw [ae,if_pos hx2]
  refine ⟨_,_,rfl,fun mS du=>(kN (hy.le (bV.trans (cC.trans du))) (by omega)).mono ?_⟩
  rintro r lH dv rfl
  rw [ae,if_pos hy2]
  refine ⟨_,_,rfl,fun z V'=>∃a b:Nat,z=((a:Int),(b:Int))/\Nat.gcd a b=Nat.gcd x y/\a<18446744073709551616/\b<18446744073709551616,fun z=>z.2.toNat,
   ⟨((x:Int),(y:Int)),by (try dsimp only);and_intros<;>trivial,x,y,rfl,rfl,hx2,hy2⟩,?_⟩
  rintro _ lP cX ⟨a,b,rfl,xR,ha2,hb2⟩
  dsimp only
  refine ⟨by trivial,fun h3=>?_,fun h3 mT c_=>?_⟩
  ·have h3:b≠0:=by rw [bne_iff_ne] at h3;omega
   have hlt:a%b<b:=Nat.mod_lt _ (by omega)
   have e4:(a:Int).tmod (b:Int)=((a%b:Nat):Int):=by rw [Int.tmod_eq_emod_of_nonneg (by omega),←Int.natCast_emod]
   rw [e4]
   exact ⟨by omega,((b:Int),((a%b:Nat):Int)),by (try dsimp only);rw [Int.toNat_natCast,Int.toNat_natCast];exact hlt,by (try dsimp only);and_intros<;>trivial,b,a%b,rfl,by rw [vo,xR],hb2,Nat.lt_trans hlt hb2⟩
  ·have h3:b=0:=by rw [bne_eq_false_iff_eq] at h3;omega
   subst h3
   rw [Nat.gcd_zero_right] at xR
   refine (dR _ (by omega) (by omega)).mono ?_
   rintro r qt cR ⟨p4,n4,c4,rfl,g1⟩
   refine ⟨_,_,_,rfl,fun rK dA=>⟨_,_,_,rfl,?_⟩⟩
   rw [←xR]
   exact g1.le dA
end Go.Proofs.Tryz
namespace Go.dP
def ay (b:Bool)(ds:List Nat):Int:=if b then -(val ds:Int) else val ds
end Go.dP
namespace Go.bE
open Go.dP
def RI (V:View)(v:Value)(z:Int):Prop:=∃p n c,v=.agg #[.bool (decide (z<0)),.slice p n c]/\RD V p n c (ag z.natAbs)
theorem RI.le {V V':View}{v:Value}{z:Int}(h:RI V v z)(l:V.Le V'):RI V' v z:=by
 obtain ⟨p,n,c,e,h⟩:=h;exact ⟨p,n,c,e,h.le l⟩
theorem RI.mk {V:View}{b:Bool}{p:OA}{n c:Nat}{z:Int}(hb:b=decide (z<0))(h:RD V p n c (ag z.natAbs)):RI V (.agg #[.bool b,.slice p n c]) z:=⟨p,n,c,by rw [hb],h⟩
theorem RI.zero {V:View}:RI V (.agg #[.bool false,.slice none 0 0]) 0:=⟨_,_,_,rfl,RD.nil⟩
end Go.bE
namespace Go.Proofs.Tryz
open Go.bE Go.dP
theorem ka {n:Nat}:bM n=0↔n=0:=by
 unfold bM;split<;>simp_all
theorem cK (b:Bool)(ds:List Nat):(ay b ds).natAbs=val ds:=by unfold ay;cases b<;>simp
theorem C7 (b:Bool)(ds:List Nat):ay b ds<0↔b=true/\val ds≠0:=by
 unfold ay;cases b
 ·simp
 ·simp;omega
theorem az (z:Int):ay (decide (z<0)) (ag z.natAbs)=z:=by
 unfold ay;rw [ae]
 by_cases h:z<0
 ·rw [decide_eq_true h,if_pos rfl];omega
 ·rw [decide_eq_false h,if_neg (by decide)];omega
theorem JP (b:Bool)(ds:List Nat):ay (!b) ds=-ay b ds:=by unfold ay;cases b<;>simp
theorem oo (ds:List Nat):ay false ds=val ds:=rfl
theorem fR {x n:Nat}(h:n=(ag x).length):0<n↔x≠0:=by
 rw [h]
 constructor
 ·intro h1 h2;subst h2;simp at h1
 ·intro h1
  rcases Nat.eq_zero_or_pos (ag x).length with e|e
  ·exact absurd (bg.1 (List.length_eq_zero_iff.1 e)) h1
  ·exact e
theorem kd {V:View}(b:Bool){p:OA}{n c x:Nat}(h:RN V p n c x) :
  ab prog 227 #[.bool b,.slice p n c] V fun r V'=>RI V' r (if b then -(x:Int) else x):=by
 have hp:=fR h.len
 refine qn b p n c V _ ⟨fun h0 V1 l1=>?_,fun h0 V1 l1=>?_⟩
 ·rw [if_pos h0]
  refine RI.mk ?_ ?_
  ·rw [Bool.eq_iff_iff,decide_eq_true_eq,decide_eq_true_eq]
   omega
  ·rw [Int.natAbs_neg,Int.natAbs_natCast];exact h.le l1
 ·rw [h0,if_neg (by decide)]
  refine RI.mk ?_ ?_
  ·symm;rw [decide_eq_false_iff_not];omega
  ·rw [Int.natAbs_natCast];exact h.le l1
theorem iP {V:View}(b:Bool){p:OA}{n c:Nat}{ds:List Nat}(h:RD V p n c ds)(hm:ds.length<=1099511627776) :
  ab prog 186 #[.agg #[.bool b,.slice p n c]] V fun r V'=>RI V' r (ay b ds):=by
 refine tC b p n c V _ fun V1 l1=>(iR (h.le l1) hm).mono ?_
 rintro r V2 l2 ⟨p1,n1,c1,rfl,h1⟩
 have hp:=fR h1.len
 have hn:=C7 b ds
 refine ⟨_,_,_,rfl,fun h0 V3 l3=>RI.mk ?_ ?_,fun h0 V3 l3=>RI.mk ?_ ?_⟩
 ·rw [Bool.eq_iff_iff,decide_eq_true_eq,decide_eq_true_eq,hn]
  simp [h0];omega
 ·rw [cK];exact h1.le l3
 ·symm;rw [decide_eq_false_iff_not,hn];simp [h0]
 ·rw [cK];exact h1.le l3
def fH (b:Bool)(ds:List Nat):Bool:=decide (ag (val ds)=ds)&&(!b||decide (ds≠[]))
theorem gj {V:View}(b:Bool){p:OA}{n c:Nat}{ds:List Nat}(h:RD V p n c ds)(hm:ds.length<=1099511627776) :
  ab prog 174 #[.agg #[.bool b,.slice p n c]] V fun r V'=>r=.bool (fH b ds):=by
 refine qm b p n c V _ fun V1 l1=>(AE (h.le l1) hm).mono ?_
 rintro r V2 l2 rfl
 refine ⟨_,rfl,fun h0=>⟨fun h1 V3 l3=>?_,fun h1 V3 l3=>?_⟩,fun h0 V3 l3=>?_⟩
 ·simp [fH,h0];simp at h1;simp [h1]
 ·have hl:=h.len
  simp [fH,h0];simp at h1;simp [h1]
  rw [Bool.eq_iff_iff,decide_eq_true_eq]
  simp
  constructor
  ·intro h2 h3;subst h3;simp at hl;omega
  ·intro h2
   rcases Nat.eq_zero_or_pos ds.length with e|e
   ·exact absurd (List.length_eq_zero_iff.1 e) h2
   ·omega
 ·simp [fH,h0]
theorem jn {V:View}(n:Int)(h0:-9223372036854775808<=n)(h1:n<=9223372036854775807) :
  ab prog 187 #[.int .i64 n] V fun r V'=>RI V' r n:=by
 refine oJ n V _ ⟨fun h2 V1 l1=>?_,fun h2 V1 l1=>?_⟩
 ·have h2:n<0:=by simpa using h2
  have e:u64.wrap (0-u64.wrap n)=-n:=by rw [rm,rm];omega
  rw [e]
  refine (dR _ (by omega) (by omega)).mono ?_
  rintro r V2 l2 ⟨p1,n1,c1,rfl,g1⟩
  refine ⟨_,_,_,rfl,fun V3 l3=>⟨_,_,_,rfl,?_⟩⟩
  rw [show n.natAbs=(-n).toNat from by omega];exact g1.le l3
 ·have h2:0<=n:=by simpa using h2
  rw [aO (by omega)]
  refine (dR _ (by omega) (by omega)).mono ?_
  rintro r V2 l2 ⟨p1,n1,c1,rfl,g1⟩
  refine ⟨_,_,_,rfl,fun V3 l3=>⟨_,_,_,rfl,?_⟩⟩
  rw [show n.natAbs=n.toNat from by omega];exact g1.le l3
theorem lZ {V:View}(b:Bool){p:OA}{n c:Nat}{ds:List Nat}(h:RD V p n c ds)(hm:ds.length<=1099511627776) :
  ab prog 185 #[.agg #[.bool b,.slice p n c]] V fun r V'=>r=.int .i64 (ay b ds).sign:=by
 refine tD b p n c V _ fun V1 l1=>(iQ (h.le l1) hm).mono ?_
 rintro r V2 l2 rfl
 have hz:(ay b ds)=0↔val ds=0:=by rw [←cK b ds];omega
 have hn:=C7 b ds
 refine ⟨_,rfl,fun h0 V3 l3=>?_,fun h0=>⟨fun h1 V3 l3=>?_,fun h1 V3 l3=>?_⟩⟩
 ·have:val ds=0:=ka.1 (by simp at h0;omega)
  rw [hz.2 this];rfl
 ·have:val ds≠0:=fun e=>by simp [ka.2 e] at h0
  rw [Int.sign_eq_neg_one_of_neg (hn.2 ⟨h1,this⟩)]
 ·have:val ds≠0:=fun e=>by simp [ka.2 e] at h0
  have:0<ay b ds:=by
   have:=hz
   have:¬ay b ds<0:=by rw [hn];simp [h1]
   omega
  rw [Int.sign_eq_one_of_pos this]
theorem xC {V:View}(b:Bool){p:OA}{n c:Nat}{ds:List Nat}(h:RD V p n c ds)(hm:ds.length<=1099511627776) :
  ab prog 193 #[.agg #[.bool b,.slice p n c]] V fun r V'=>RI V' r (-ay b ds):=by
 refine wK b p n c V _ fun V1 l1=>(iP (!b) (h.le l1) hm).mono ?_
 rintro r V2 l2 ⟨p1,n1,c1,rfl,h1⟩
 rw [JP] at h1 ⊢
 exact ⟨_,_,_,_,rfl,fun V3 l3=>⟨_,_,_,rfl,h1.le l3⟩⟩
theorem gK {V:View}(b1 b2:Bool){p q:OA}{n c m e:Nat}{xa xb:List Nat}(ha:RD V p n c xa)(hb:RD V q m e xb)(hm:xa.length+xb.length<=1099511627776) :
  ab prog 214 #[.agg #[.bool b1,.slice p n c],.agg #[.bool b2,.slice q m e]] V fun r V'=>RI V' r (ay b1 xa*ay b2 xb):=by
 refine wJ b1 p n c b2 q m e V _ fun V1 l1=>(gx (ha.le l1) (hb.le l1) hm).mono ?_
 rintro r V2 l2 ⟨p1,n1,c1,rfl,h1⟩
 refine ⟨_,_,_,rfl,fun V3 l3=>(kd _ (h1.le l3)).mono ?_⟩
 rintro r V4 l4 ⟨p2,n2,c2,rfl,h2⟩
 have e1:(if (!(b1==b2))=true then -((val xa*val xb:Nat):Int) else ((val xa*val xb:Nat):Int))=ay b1 xa*ay b2 xb:=by
  unfold ay;cases b1<;>cases b2<;>simp [Int.neg_mul,Int.mul_neg]
 rw [e1] at h2 ⊢
 exact ⟨_,_,_,_,rfl,fun V5 l5=>⟨_,_,_,rfl,h2.le l5⟩⟩
theorem xB {V:View}(b1 b2:Bool){p q:OA}{n c m e:Nat}{xa xb:List Nat}(ha:RD V p n c xa)(hb:RD V q m e xb)(hm:xa.length<=1099511627776)(hn:xb.length<=1099511627776) :
  ab prog 213 #[.agg #[.bool b1,.slice p n c],.agg #[.bool b2,.slice q m e]] V fun r V'=>RI V' r (ay b1 xa+ay b2 xb):=by
 have fin:∀{b:Bool} {x:Nat} {V1:View} {p1:OA} {n1 c1:Nat},RN V1 p1 n1 c1 x->(if b then -(x:Int) else x)=ay b1 xa+ay b2 xb ->
   ab prog 227 #[.bool b,.slice p1 n1 c1] V1 fun r V'=>∃(I5:Bool)(Kk:OA)(J3 Ja:Nat),r=.agg #[.bool I5,.slice Kk J3 Ja]/\∀V3:View,V'.Le V3->RI V3 (.agg #[.bool I5,.slice Kk J3 Ja]) (ay b1 xa+ay b2 xb):=by
  intro b x V1 p1 n1 c1 h he
  refine (kd b h).mono ?_
  rintro r V4 l4 ⟨p2,n2,c2,rfl,h2⟩
  rw [he] at h2 ⊢
  exact ⟨_,_,_,_,rfl,fun V5 l5=>⟨_,_,_,rfl,h2.le l5⟩⟩
 refine wI b1 p n c b2 q m e V _ ⟨fun h0 V1 l1=>(HC (ha.le l1) (hb.le l1) hm hn).mono ?_,fun h0 V1 l1=>(zC (ha.le l1) (hb.le l1) hm hn).mono ?_⟩
 ·rintro r V2 l2 ⟨p1,n1,c1,rfl,h1⟩
  have h0:b1=b2:=by simpa using h0
  subst h0
  exact ⟨_,_,_,rfl,fun V3 l3=>fin (h1.le l3) (by unfold ay;cases b1<;>simp;omega)⟩
 ·rintro r V2 l2 ⟨p1,n1,c1,rfl,h1⟩
  have h0:b2=!b1:=by cases b1<;>cases b2<;>simp_all
  subst h0
  refine ⟨_,_,_,_,rfl,fun h2 V3 l3=>fin (h1.le l3) ?_,fun h2 V3 l3=>(zC (hb.le (l1.trans (l2.trans l3))) (ha.le (l1.trans (l2.trans l3))) hn hm).mono ?_⟩
  ·have h2:val xb<=val xa:=by simpa using h2
   unfold ay;cases b1<;>simp<;>omega
  ·rintro r V4 l4 ⟨p2,n2,c2,rfl,h3⟩
   have h2:val xa<val xb:=by simpa using h2
   exact ⟨_,_,_,_,rfl,fun V5 l5=>fin (h3.le l5) (by unfold ay;cases b1<;>simp<;>omega)⟩
theorem sN {V:View}(b:Bool){p:OA}{n c:Nat}{ds:List Nat}(h:RD V p n c ds)(hm:ds.length<=1099511627776)(hs:val ds<4611686018427387904) :
  ab prog 220 #[.agg #[.bool b,.slice p n c]] V fun r V'=>r=.tuple #[.int .i64 (ay b ds),.bool true]:=by
 refine rE b p n c V _ fun V1 l1=>(kN (h.le l1) hm).mono ?_
 rintro r V2 l2 rfl
 rw [if_pos (by omega),decide_eq_true (show val ds<18446744073709551616 by omega)]
 refine ⟨_,_,rfl,fun _=>⟨fun h1=>⟨fun h2 V3 l3=>?_,fun h2=>?_⟩,fun h1=>⟨fun _=>⟨fun h2=>⟨fun h3 V4 l4=>?_,fun h3=>?_⟩,fun h2=>?_⟩,fun h2=>nomatch h2⟩⟩,fun h1=>nomatch h1⟩
 ·subst h1
  have e:i64.wrap (u64.wrap (0-(val ds:Int)))=-(val ds:Int):=by
   rw [rm,IntKind.wrap_i64];omega
  rw [e];rfl
 ·simp at h2;omega
 ·subst h1
  rw [aB (by omega)];rfl
 ·simp at h3;omega
 ·simp [h1] at h2
end Go.Proofs.Tryz
namespace Go.bE
open Go.dP
def Wd (q:Rat):Prop:=q.num.natAbs<4611686018427387904/\q.den<4611686018427387904
def RR (V:View)(v:Value)(q:Rat):Prop:=
 (v=.agg #[.int .i64 q.num,.int .i64 ((q.den:Int)-1),.pointer none]/\Wd q) \/
 (∃a b p n c p' n' c',v=.agg #[.int .i64 0,.int .i64 0,.pointer (some a)]/\V.at (a.add 0) (.bool b)/\V.at (a.add 1) (.slice p n c)/\V.at (a.add 2) (.slice p' n' c') /\
  RI V (.agg #[.bool b,.slice p n c]) q.num/\RD V p' n' c' (ag q.den)/\¬Wd q)
theorem RR.le {V V':View}{v:Value}{q:Rat}(h:RR V v q)(l:V.Le V'):RR V' v q:=by
 rcases h with h|⟨a,b,p,n,c,p',n',c',e,h1,h2,h3,h4,h5,h6⟩
 ·exact .inl h
 ·exact .inr ⟨a,b,p,n,c,p',n',c',e,l.at h1,l.at h2,l.at h3,h4.le l,h5.le l,h6⟩
def Sz (k:Nat)(q:Rat):Prop:=q.num.natAbs<2^k/\q.den<2^k
theorem Sz.mono {k m:Nat}{q:Rat}(h:Sz k q)(hm:k<=m):Sz m q:=
 ⟨Nat.lt_of_lt_of_le h.1 (Nat.pow_le_pow_right (by omega) hm),Nat.lt_of_lt_of_le h.2 (Nat.pow_le_pow_right (by omega) hm)⟩
theorem af {n k:Nat}(h:n<2^k):(ag n).length<=k:=by
 rw [aI]
 exact Nat.lt_of_lt_of_le h (Nat.pow_le_pow_left (by omega) k)
theorem Wd.sz {q:Rat}(h:Wd q):Sz 62 q:=h
theorem RR.shape {V:View}{v:Value}{q:Rat}(h:RR V v q):∃(n d:Int)(p:OA),v=.agg #[.int .i64 n,.int .i64 d,.pointer p]:=by
 rcases h with ⟨e,-⟩|⟨a,b,p,n,c,p',n',c',e,-⟩
 ·exact ⟨_,_,_,e⟩
 ·exact ⟨_,_,_,e⟩
end Go.bE
namespace Go.Proofs.Tryz
open Go.bE Go.dP
theorem Aw (n:Nat):decide ((bM n:Int)<=62)=decide (n<4611686018427387904):=by
 have:=@jl n 62
 rw [Bool.eq_iff_iff,decide_eq_true_eq,decide_eq_true_eq]
 omega
theorem Ia {z:Int}{d:Nat}(hd:d≠0)(hg:Nat.gcd z.natAbs d=1):(mkRat z d).num=z/\(mkRat z d).den=d:=by
 have:Nat.gcd d z.natAbs=1:=by rw [Nat.gcd_comm];exact hg
 rw [Rat.num_mkRat,Rat.den_mkRat,if_neg hd,if_neg hd,this]
 simp
theorem ck {V:View}(b:Bool){p q:OA}{n c m e:Nat}{xs ys:List Nat}(hx:RD V p n c xs)(hy:RD V q m e ys)(hm:xs.length<=1099511627776)(hn:ys.length<=1099511627776) :
  ab prog 190 #[.agg #[.bool b,.slice p n c],.slice q m e] V fun r V'=>RR V' r (mkRat (ay b xs) (val ys)):=by
 have zero:∀V':View,RR V' (.agg #[.int .i64 0,.int .i64 0,.pointer none]) 0:=fun V'=>.inl ⟨rfl,by unfold Wd;decide⟩
 refine wB b p n c q m e V _ fun V1 l1=>(iQ (hy.le l1) hn).mono ?_
 rintro r V2 l2 rfl
 refine ⟨_,rfl,fun h0 V3 l3=>?_,fun h0 V4 l4=>(lZ b (hx.le (l1.trans (l2.trans l4))) hm).mono ?_⟩
 ·have:val ys=0:=ka.1 (by simp at h0;omega)
  rw [this,Rat.mkRat_zero];exact zero _
 rintro r V5 l5 rfl
 have hy0:val ys≠0:=fun e=>by simp [ka.2 e] at h0
 refine ⟨_,rfl,fun h1 V6 l6=>?_,fun h1 V7 l7=>?_⟩
 ·have:ay b xs=0:=Int.sign_eq_zero_iff_zero.1 (by simpa using h1)
  rw [this,Rat.zero_mkRat];exact zero _
 have hx0:ay b xs≠0:=fun e=>by simp [e] at h1
 have hx0':val xs≠0:=by rw [←cK b xs];omega
 replace hx:=hx.le (l1.trans (l2.trans (l4.trans (l5.trans l7))))
 replace hy:=hy.le (l1.trans (l2.trans (l4.trans (l5.trans l7))))
 refine (zy hx hy hm hn).mono ?_
 rintro r V8 l8 ⟨p3,n3,c3,rfl,hg⟩
 replace hx:=hx.le l8
 replace hy:=hy.le l8
 have hgl:Nat.gcd (val xs) (val ys)<=val ys:=Nat.le_of_dvd (by omega) (Nat.gcd_dvd_right _ _)
 have hgd:(ag (Nat.gcd (val xs) (val ys))).length<=1099511627776:=Nat.le_trans (aD hgl) (by have:=bh hy.cZ;omega)
 have Nr:Nat.gcd (val xs) (val ys)≠0:=by
  intro e0;exact hx0' (Nat.eq_zero_of_gcd_eq_zero_left e0)
 refine ⟨_,_,_,rfl,fun V9 l9=>(iQ (hg.le l9) hgd).mono ?_⟩
 rintro r jG l10 rfl
 rw [ae]
 replace hx:=hx.le (l9.trans l10)
 replace hy:=hy.le (l9.trans l10)
 replace hg:=hg.le (l9.trans l10)
 refine ⟨_,rfl,fun z V'=>∃(us vs:List Nat),z.2.2.2.1=b/\RD V' z.2.2.2.2.1 z.2.2.2.2.2.1 z.2.2.2.2.2.2 us/\RD V' z.1 z.2.1 z.2.2.1 vs/\us.length<=1099511627776/\vs.length<=1099511627776/\val vs≠0 /\
  Nat.gcd (val us) (val vs)=1/\mkRat (ay b xs) (val ys)=mkRat (ay b us) (val vs),⟨fun h2 jZ bI=>?_,fun h2=>?_⟩,?_⟩
 ·refine (kM (hx.le bI) (hg.le bI) hm hgd (by rw [ae];exact Nr)).mono ?_
  rintro r mQ bV ⟨p4,n4,c4,p5,n5,c5,rfl,g1,g2⟩
  refine ⟨_,_,_,_,_,_,_,rfl,fun qv cC=>(kM (hy.le (bI.trans (bV.trans cC))) (hg.le (bI.trans (bV.trans cC))) hn hgd (by rw [ae];exact Nr)).mono ?_⟩
  rintro r mS du ⟨p6,n6,c6,p7,n7,c7,rfl,g3,g4⟩
  rw [ae] at g1 g3
  have e1:val (ag (val xs / Nat.gcd (val xs) (val ys)))=val xs / Nat.gcd (val xs) (val ys):=ae _
  have e2:val (ag (val ys / Nat.gcd (val xs) (val ys)))=val ys / Nat.gcd (val xs) (val ys):=ae _
  have d1:=Nat.gcd_dvd_left (val xs) (val ys)
  have d2:=Nat.gcd_dvd_right (val xs) (val ys)
  have hdy:val ys / Nat.gcd (val xs) (val ys)≠0:=by
   intro e0
   have:=Nat.div_mul_cancel d2
   rw [e0,Nat.zero_mul] at this
   exact hy0 this.symm
  refine ⟨_,_,_,_,_,_,_,rfl,(p6,n6,c6,b,p4,n4,c4),by (try dsimp only);and_intros<;>trivial,_,_,rfl,g1.le (cC.trans du),g3,?_,?_,?_,?_,?_⟩
  ·exact Nat.le_trans (aD (Nat.div_le_self _ _)) (by have:=bh hx.cZ;omega)
  ·exact Nat.le_trans (aD (Nat.div_le_self _ _)) (by have:=bh hy.cZ;omega)
  ·rw [e2];exact hdy
  ·rw [e1,e2];exact Nat.gcd_div_gcd_div_gcd_of_pos_left (by omega)
  ·rw [e2]
   have k1:val ys=val ys / Nat.gcd (val xs) (val ys)*Nat.gcd (val xs) (val ys):=(Nat.div_mul_cancel d2).symm
   have k2:ay b xs=ay b (ag (val xs / Nat.gcd (val xs) (val ys)))*(Nat.gcd (val xs) (val ys):Nat):=by
    have k3:(val xs:Int)=((val xs / Nat.gcd (val xs) (val ys):Nat):Int)*(Nat.gcd (val xs) (val ys):Nat):=by
     rw [←Int.natCast_mul,Nat.div_mul_cancel d1]
    unfold ay
    rw [e1]
    cases b
    ·simpa using k3
    ·simp only [if_true];rw [Int.neg_mul,←k3]
   conv=>lhs;rw [k1,k2]
   exact Rat.mkRat_mul_right Nr
 ·have hg1:Nat.gcd (val xs) (val ys)=1:=by
   have h3:¬(1<bM (Nat.gcd (val xs) (val ys))):=by simp at h2;omega
   have:=@jl (Nat.gcd (val xs) (val ys)) 1
   omega
  exact ⟨(q,m,e,b,p,n,c),by (try dsimp only);and_intros<;>trivial,xs,ys,rfl,hx,hy,hm,hn,hy0,hg1,rfl⟩
 ·rintro ⟨q,m,e,b',p,n,c⟩ lH dv ⟨us,vs,hbb,hu,hv,QJ,hvl,hv0,hgc,hq⟩
  dsimp only at hbb hu hv ⊢
  subst hbb
  rw [hq]
  obtain ⟨sR,hden⟩:=Ia (z:=ay b' us) hv0 (by rw [cK];exact hgc)
  generalize mkRat (ay b' us) (val vs)=w at *
  have hW:Wd w↔val us<4611686018427387904/\val vs<4611686018427387904:=by
   unfold Wd;rw [sR,hden,cK]
  have Nk:∀V1:View,lH.Le V1->¬Wd w->ab prog 186 #[.agg #[.bool b',.slice p n c]] V1 fun r V2=>∃(I5:Bool)(Kk:OA)(J3 Ja:Nat),r=.agg #[.bool I5,.slice Kk J3 Ja] /\
    (∀V3:View,V2.Le V3->ab prog 188 #[.slice q m e] V3 fun r V4=>∃(X0:OA)(XW WZ:Nat),r=.slice X0 XW WZ /\
    (∀V5:View,V4.Le V5->∀bk:Nat,V5.bG bk (.cells #[.bool I5,.slice Kk J3 Ja,.slice X0 XW WZ] 256 (0,0))->RR V5 (.agg #[.int .i64 0,.int .i64 0,.pointer (some ⟨bk,0,none⟩)]) w)):=by
   intro V1 l1 hw
   refine (iP b' (hu.le l1) QJ).mono ?_
   rintro r V2 l2 IQ
   obtain ⟨p2,n2,c2,rfl,h2⟩:=IQ
   have IQ:RI V2 (.agg #[.bool (decide (ay b' us<0)),.slice p2 n2 c2]) (ay b' us):=⟨_,_,_,rfl,h2⟩
   refine ⟨_,_,_,_,rfl,fun V3 l3=>(iR (hv.le (l1.trans (l2.trans l3))) hvl).mono ?_⟩
   rintro r V4 l4 ⟨p3,n3,c3,rfl,h3⟩
   refine ⟨_,_,_,rfl,fun V5 l5 bk hb=>.inr ⟨⟨bk,0,none⟩,decide (ay b' us<0),p2,n2,c2,p3,n3,c3,rfl,?_,?_,?_,?_,?_,hw⟩⟩
   ·rw [add_zero'];exact eH (xs:=[_,_,_]) hb rfl
   ·rw [add_zero'];exact eH (xs:=[_,_,_]) hb rfl
   ·rw [add_zero'];exact eH (xs:=[_,_,_]) hb rfl
   ·rw [sR];exact IQ.le (l3.trans (l4.trans l5))
   ·rw [hden];exact h3.le l5
  refine ⟨by trivial,fun lP cX=>(iQ (hu.le cX) QJ).mono ?_⟩
  rintro r mT c_ rfl
  refine ⟨_,rfl,fun h3 qt cR=>(iQ (hv.le (cX.trans (c_.trans cR))) hvl).mono ?_,fun h3 Lf xT=>Nk Lf (cX.trans (c_.trans xT)) ?_⟩
  ·rintro r rK dA rfl
   rw [Aw,decide_eq_true_eq] at h3
   refine ⟨_,rfl,fun h4 yV fG=>?_,fun h4 Gq lQ=>Nk Gq (cX.trans (c_.trans (cR.trans (dA.trans lQ)))) ?_⟩
   ·rw [Aw,decide_eq_true_eq] at h4
    refine (sN b' (hu.le (cX.trans (c_.trans (cR.trans (dA.trans fG))))) QJ h3).mono ?_
    rintro r ui fv rfl
    refine ⟨_,_,rfl,fun uj gF=>(kN (hv.le (cX.trans (c_.trans (cR.trans (dA.trans (fG.trans (fv.trans gF))))))) hvl).mono ?_⟩
    rintro r xu gY rfl
    rw [if_pos (by omega)]
    refine ⟨_,_,rfl,fun Gp lN=>.inl ⟨?_,hW.2 ⟨h3,h4⟩⟩⟩
    rw [aB (x:=((val vs:Nat):Int)) (by omega),aB (by omega),sR,hden]
   ·rw [Aw,decide_eq_false_iff_not] at h4
    rw [hW];omega
  ·rw [Aw,decide_eq_false_iff_not] at h3
   rw [hW];omega
end Go.Proofs.Tryz
namespace Go.bE
open Go.dP
theorem RI.inv {V:View}{b:Bool}{p:OA}{n c:Nat}{z:Int}(h:RI V (.agg #[.bool b,.slice p n c]) z):b=decide (z<0)/\RD V p n c (ag z.natAbs):=by
 obtain ⟨p1,n1,c1,e,hn⟩:=h
 simp at e
 obtain ⟨rfl,rfl,rfl,rfl⟩:=e
 exact ⟨rfl,hn⟩
end Go.bE
namespace Go.Proofs.Tryz
open Go.bE Go.dP
theorem fc {V:View}{v:Value}{q:Rat}(h:RR V v q){k:Nat}(hs:Sz k q)(hk:k<=1099511627776) :
  ab prog 140 #[v] V fun r V'=>RI V' r q.num:=by
 rcases h with ⟨rfl,hw⟩|⟨a,b,p,n,c,p',n',c',rfl,h1,h2,h3,h4,h5,hw⟩
 ·have:=hw.1
  refine nU _ _ _ V _ ⟨(fun h0=>nomatch h0),fun _ V1 l1=>(jn _ (by omega) (by omega)).mono ?_⟩
  rintro r V2 l2 ⟨p,n,c,rfl,g⟩
  exact ⟨_,_,_,_,rfl,fun V3 l3=>⟨_,_,_,rfl,g.le l3⟩⟩
 ·obtain ⟨rfl,hn⟩:=h4.inv
  refine nU _ _ _ V _ ⟨fun _=>⟨rfl,rfl,decide (q.num<0),p,n,c,a.add 0,rfl,?_,?_,fun V1 l1=>(iP _ (hn.le l1) (Nat.le_trans (af hs.1) hk)).mono ?_⟩,fun h0=>nomatch h0⟩
  ·exact h1
  ·simpa [Addr.add] using h2
  ·rintro r V2 l2 ⟨p,n,c,rfl,g⟩
   rw [az] at g ⊢
   exact ⟨_,_,_,_,rfl,fun V3 l3=>⟨_,_,_,rfl,g.le l3⟩⟩
theorem en {V:View}{v:Value}{q:Rat}(h:RR V v q){k:Nat}(hs:Sz k q)(hk:k<=1099511627776) :
  ab prog 141 #[v] V fun r V'=>∃p n c,r=.slice p n c/\RN V' p n c q.den:=by
 rcases h with ⟨rfl,hw⟩|⟨a,b,p,n,c,p',n',c',rfl,h1,h2,h3,h4,h5,hw⟩
 ·have:=hw.2
  have hd:=q.den_nz
  refine nR _ _ _ V _ ⟨(fun h0=>nomatch h0),fun _ V1 l1=>?_⟩
  rw [aB (by omega),aO (by omega)]
  refine (dR _ (by omega) (by omega)).mono ?_
  rintro r V2 l2 ⟨p,n,c,rfl,g⟩
  rw [show ((q.den:Int)-1+1).toNat=q.den from by omega] at g
  exact ⟨_,_,_,rfl,fun V3 l3=>⟨_,_,_,rfl,g.le l3⟩⟩
 ·refine nR _ _ _ V _ ⟨fun _=>⟨rfl,rfl,_,_,_,⟨_,rfl,h3⟩,fun V1 l1=>(iR (h5.le l1) (Nat.le_trans (af hs.2) hk)).mono ?_⟩,fun h0=>nomatch h0⟩
  rintro r V2 l2 ⟨p,n,c,rfl,g⟩
  rw [ae] at g
  exact ⟨_,_,_,rfl,fun V3 l3=>⟨_,_,_,rfl,g.le l3⟩⟩
theorem iO {V:View}(n:Int)(h0:-9223372036854775808<n)(h1:n<=9223372036854775807) :
  ab prog 208 #[.int .i64 n] V fun r V'=>r=.int .u64 (n.natAbs:Int):=by
 refine D0 n V _ ⟨fun h2 V1 l1=>?_,fun h2 V1 l1=>?_⟩
 ·have h2:n<0:=by simpa using h2
  rw [aB (by omega),aO (by omega)];congr 1;omega
 ·have h2:0<=n:=by simpa using h2
  rw [aO (by omega)];congr 1;omega
theorem uE {V:View}(x y:Nat)(hx:x<18446744073709551616)(hy:y<18446744073709551616) :
  ab prog 207 #[.int .u64 (x:Int),.int .u64 (y:Int)] V fun r V'=>r=.int .u64 (Nat.gcd x y:Int):=by
 refine D1 _ _ V _ ⟨fun z V'=>∃a b:Nat,z=((a:Int),(b:Int))/\Nat.gcd a b=Nat.gcd x y,fun z=>z.2.toNat,
  ⟨((x:Int),(y:Int)),by (try dsimp only);and_intros<;>trivial,x,y,rfl,rfl⟩,?_⟩
 rintro _ lP cX ⟨a,b,rfl,xR⟩
 dsimp only
 refine ⟨by trivial,fun h3=>?_,fun h3 mT c_=>?_⟩
 ·have h3:b≠0:=by rw [bne_iff_ne] at h3;omega
  have hlt:a%b<b:=Nat.mod_lt _ (by omega)
  have e4:(a:Int).tmod (b:Int)=((a%b:Nat):Int):=by rw [Int.tmod_eq_emod_of_nonneg (by omega),←Int.natCast_emod]
  rw [e4]
  exact ⟨by omega,((b:Int),((a%b:Nat):Int)),by (try dsimp only);rw [Int.toNat_natCast,Int.toNat_natCast];exact hlt,by (try dsimp only);and_intros<;>trivial,b,a%b,rfl,by rw [vo,xR]⟩
 ·have h3:b=0:=by rw [bne_eq_false_iff_eq] at h3;omega
  subst h3
  rw [Nat.gcd_zero_right] at xR
  rw [xR]
theorem fK {V:View}(a b:Int)(ha:a.natAbs<4611686018427387904)(hb:b.natAbs<4611686018427387904) :
  ab prog 211 #[.int .i64 a,.int .i64 b] V fun r V'=>∃z:Int,r=.tuple #[.int .i64 z,.bool (decide ((a*b).natAbs<4611686018427387904))]/\((a*b).natAbs<4611686018427387904->z=a*b):=by
 refine yj a b V _ fun V1 l1=>(iO a (by omega) (by omega)).mono ?_
 rintro r V2 l2 rfl
 refine ⟨_,rfl,fun V3 l3=>(iO b (by omega) (by omega)).mono ?_⟩
 rintro r V4 l4 rfl
 refine ⟨_,rfl,fun V5 l5=>(LB _ _ (by omega) (by omega)).mono ?_⟩
 rintro r V6 l6 rfl
 have xR:(a*b).natAbs=a.natAbs*b.natAbs:=Int.natAbs_mul a b
 have hsg:a*b=if (decide (a<0)==decide (b<0)) then ((a.natAbs*b.natAbs:Nat):Int) else -((a.natAbs*b.natAbs:Nat):Int):=by
  rw [Int.natCast_mul]
  by_cases h1:a<0<;>by_cases h2:b<0
  ·rw [decide_eq_true h1,decide_eq_true h2,show (a.natAbs:Int)=-a from by omega,show (b.natAbs:Int)=-b from by omega];simp [Int.neg_mul,Int.mul_neg]
  ·rw [decide_eq_true h1,decide_eq_false h2,if_neg (by decide),show (a.natAbs:Int)=-a from by omega,show (b.natAbs:Int)=b from by omega];simp [Int.neg_mul]
  ·rw [decide_eq_false h1,decide_eq_true h2,if_neg (by decide),show (a.natAbs:Int)=a from by omega,show (b.natAbs:Int)=-b from by omega];simp [Int.mul_neg]
  ·rw [decide_eq_false h1,decide_eq_false h2,show (a.natAbs:Int)=a from by omega,show (b.natAbs:Int)=b from by omega];simp
 rw [xR]
 generalize a.natAbs*b.natAbs=p at *
 refine ⟨_,_,rfl,fun h0 V7 l7=>?_,fun h0=>⟨fun h1 V7 l7=>?_,fun h1=>⟨fun h2 V7 l7=>?_,fun h2 V7 l7=>?_⟩⟩⟩
 ·have h0:18446744073709551616<=p:=by rw [bne_iff_ne] at h0;omega
  rw [decide_eq_false (by omega)]
  exact ⟨_,rfl,fun h=>by omega⟩
 ·have h1:4611686018427387904<=p:=by
   rw [decide_eq_true_eq] at h1;omega
  rw [decide_eq_false (by omega)]
  exact ⟨_,rfl,fun h=>by omega⟩
 ·have h0:p / 18446744073709551616=0:=by rw [bne_eq_false_iff_eq] at h0;omega
  have h1:p<4611686018427387904:=by rw [decide_eq_false_iff_not] at h1;omega
  rw [decide_eq_true h1,aB (x:=((p%18446744073709551616:Nat):Int)) (by omega),aB (by omega)]
  refine ⟨_,rfl,fun _=>?_⟩
  have h2:(decide (a<0)==decide (b<0))=false:=by simpa using h2
  rw [hsg,h2,if_neg (by decide)];omega
 ·have h0:p / 18446744073709551616=0:=by rw [bne_eq_false_iff_eq] at h0;omega
  have h1:p<4611686018427387904:=by rw [decide_eq_false_iff_not] at h1;omega
  rw [decide_eq_true h1,aB (x:=((p%18446744073709551616:Nat):Int)) (by omega)]
  refine ⟨_,rfl,fun _=>?_⟩
  have h2:(decide (a<0)==decide (b<0))=true:=by simpa using h2
  rw [hsg,h2,if_pos rfl];omega
theorem nI {V:View}(n:Int)(d:Nat)(hn:n.natAbs<4611686018427387904)(hd:d<4611686018427387904)(hd0:d≠0) :
  ab prog 212 #[.int .i64 n,.int .i64 (d:Int)] V fun r V'=>RR V' r (mkRat n d):=by
 refine wA n _ V _ fun V1 l1=>(iO n (by omega) (by omega)).mono ?_
 rintro r V2 l2 rfl
 rw [aO (x:=(d:Int)) (by omega)]
 refine ⟨_,rfl,fun V3 l3=>(uE _ _ (by omega) (by omega)).mono ?_⟩
 rintro r V4 l4 rfl
 have hgl:Nat.gcd n.natAbs d<=d:=Nat.le_of_dvd (by omega) (Nat.gcd_dvd_right _ _)
 have Nr:0<Nat.gcd n.natAbs d:=Nat.gcd_pos_of_pos_right _ (by omega)
 have sR:=Rat.num_mkRat n d
 have hden:=Rat.den_mkRat n d
 rw [if_neg hd0,Nat.gcd_comm] at sR hden
 have hdvd:(Nat.gcd n.natAbs d:Int)∣n:=Int.ofNat_dvd_left.2 (Nat.gcd_dvd_left _ _)
 have hdl:d / Nat.gcd n.natAbs d<=d:=Nat.div_le_self _ _
 have hnl:(n / (Nat.gcd n.natAbs d:Int)).natAbs<=n.natAbs:=by
  rw [Int.natAbs_ediv_of_dvd hdvd,Int.natAbs_natCast];exact Nat.div_le_self _ _
 have hW:Wd (mkRat n d):=by unfold Wd;rw [sR,hden];omega
 refine ⟨_,rfl,?_⟩
 rw [aB (x:=((Nat.gcd n.natAbs d:Nat):Int)) (by omega)]
 refine ⟨fun h0=>⟨by omega,by omega,fun V5 l5=>.inl ⟨?_,hW⟩⟩,fun h0 V5 l5=>.inl ⟨?_,hW⟩⟩
 ·rw [sR,hden]
  have e1:n.tdiv (Nat.gcd n.natAbs d:Int)=n / (Nat.gcd n.natAbs d:Int):=Int.tdiv_eq_ediv_of_dvd hdvd
  have e2:(d:Int).tdiv (Nat.gcd n.natAbs d:Int)=((d / Nat.gcd n.natAbs d:Nat):Int):=by rw [Int.tdiv_eq_ediv_of_nonneg (by omega),←Int.natCast_ediv]
  rw [e1,e2]
  generalize n / (Nat.gcd n.natAbs d:Int)=nn at *
  generalize d / Nat.gcd n.natAbs d=dd at *
  rw [aB (by omega),aB (x:=(dd:Int)) (by omega),aB (by omega)]
 ·have h0:Nat.gcd n.natAbs d=1:=by rw [decide_eq_false_iff_not] at h0;omega
  rw [sR,hden,h0,aB (by omega)]
  simp
theorem mkRat_one (z:Int):mkRat z 1=(z:Rat):=by
 apply Rat.ext
 ·rw [Rat.num_mkRat];simp
 ·rw [Rat.den_mkRat];simp
theorem RD.one {V:View}{bk:Nat}{ty:TypeId}{m:Nat×Nat}(h:V.bG bk (.cells #[.int .u32 1] ty m)):RD V (some ⟨bk,0,none⟩) 1 1 [1]:=
 RD.bG (ds:=[1]) h (by simp [bN]) rfl (Nat.le_refl _)
theorem kJ {V:View}(b:Bool){p:OA}{n c:Nat}{ds:List Nat}(h:RD V p n c ds)(hm:ds.length<=1099511627776) :
  ab prog 175 #[.agg #[.bool b,.slice p n c]] V fun r V'=>RR V' r (ay b ds:Rat):=by
 refine yh b p n c V _ fun V1 l1 bk hb=>(ck b (h.le l1) (RD.one hb) hm (by simp)).mono ?_
 rintro r V2 l2 hr
 have e:mkRat (ay b ds) (val [1])=(ay b ds:Rat):=mkRat_one _
 rw [e] at hr
 obtain ⟨n,d,p,rfl⟩:=hr.shape
 exact ⟨_,_,_,rfl,fun _ V3 l3=>hr.le l3⟩
theorem vA {z:Int}(h:z.natAbs<4611686018427387904):Wd (z:Rat):=⟨h,by show (1:Nat)<_;decide⟩
theorem iN {V:View}(n:Int)(h0:-9223372036854775808<=n)(h1:n<=9223372036854775807) :
  ab prog 143 #[.int .i64 n] V fun r V'=>RR V' r (n:Rat):=by
 have Nk:∀V1:View,V.Le V1->ab prog 187 #[.int .i64 n] V1 fun r1_ V2=>∃I5:Bool,∃(Kk:OA)(J3 Ja:Nat),r1_=.agg #[.bool I5,.slice Kk J3 Ja]/\(∀V3:View,V2.Le V3->∀P7:Nat,V3.bG P7 (.cells #[.int .u32 1] 188 (0,0))->ab prog 190 #[.agg #[.bool I5,.slice Kk J3 Ja],.slice (some ⟨P7,0,none⟩) 1 1] V3 fun r3_ V4=>∃Yp:Int,∃Yq:Int,∃X1:OA,r3_=.agg #[.int .i64 Yp,.int .i64 Yq,.pointer X1]/\∀J7_:C->Value,(∀V5:View,V4.Le V5->RR V5 (.agg #[.int .i64 Yp,.int .i64 Yq,.pointer X1]) (n:Rat))):=by
  intro V1 l1
  refine (jn n h0 h1).mono ?_
  rintro r V2 l2 ⟨p,m,c,rfl,g⟩
  refine ⟨_,_,_,_,rfl,fun V3 l3 bk hb=>(ck _ (g.le l3) (RD.one hb) (Nat.le_trans (af (k:=64) (by omega)) (by omega)) (by simp)).mono ?_⟩
  rintro r V4 l4 hr
  have e:mkRat (ay (decide (n<0)) (ag n.natAbs)) (val [1])=(n:Rat):=by rw [az];exact mkRat_one _
  rw [e] at hr
  obtain ⟨n,d,p,rfl⟩:=hr.shape
  exact ⟨_,_,_,rfl,fun _ V3 l3=>hr.le l3⟩
 refine DX n V _ ⟨fun _=>Nk,fun h2=>⟨fun _=>Nk,fun h3 V1 l1=>.inl ⟨rfl,vA ?_⟩⟩⟩
 rw [decide_eq_false_iff_not] at h2 h3
 omega
theorem eO {V:View}{v:Value}{q:Rat}(h:RR V v q){k:Nat}(hs:Sz k q)(hk:k<=1099511627776) :
  ab prog 137 #[v] V fun r V'=>r=.int .i64 q.num.sign:=by
 rcases h with ⟨rfl,hw⟩|⟨a,b,p,n,c,p',n',c',rfl,h1,h2,h3,h4,h5,hw⟩
 ·refine mJ _ _ _ V _ ⟨(fun h0=>nomatch h0),fun _=>⟨fun h V1 l1=>?_,fun h=>⟨fun h' V1 l1=>?_,fun h' V1 l1=>?_⟩⟩⟩
  ·rw [Int.sign_eq_neg_one_of_neg (by simpa using h)]
  ·rw [Int.sign_eq_one_of_pos (by simpa using h')]
  ·have:q.num=0:=by rw [decide_eq_false_iff_not] at h h';omega
   rw [this];rfl
 ·obtain ⟨rfl,hn⟩:=h4.inv
  refine mJ _ _ _ V _ ⟨fun _=>⟨rfl,rfl,decide (q.num<0),p,n,c,a.add 0,rfl,?_,?_,fun V1 l1=>(lZ _ (hn.le l1) (Nat.le_trans (af hs.1) hk)).mono ?_⟩,(fun h0=>nomatch h0)⟩
  ·exact h1
  ·simpa [Addr.add] using h2
  ·rintro r V2 l2 rfl
   rw [az]
   exact ⟨_,rfl,fun V3 l3=>rfl⟩
theorem uC {V:View}{v:Value}{q:Rat}(h:RR V v q):ab prog 176 #[v] V fun r V'=>r=.bool (decide (q=0)):=by
 rcases h with ⟨rfl,hw⟩|⟨a,b,p,n,c,p',n',c',rfl,h1,h2,h3,h4,h5,hw⟩
 ·refine mK _ _ _ V _ ⟨fun _ V1 l1=>?_,(fun h0=>nomatch h0)⟩
  congr 1
  rw [Bool.eq_iff_iff,beq_iff_eq,decide_eq_true_eq]
  exact Rat.num_eq_zero
 ·refine mK _ _ _ V _ ⟨(fun h0=>nomatch h0),fun _ V1 l1=>?_⟩
  congr 1
  symm;rw [decide_eq_false_iff_not]
  intro e;subst e;exact hw ⟨by decide,by decide⟩
theorem oV {V:View}{v:Value}{q:Rat}(h:RR V v q){k:Nat}(hs:Sz k q)(hk:k<=1099511627776) :
  ab prog 148 #[v] V fun r V'=>RR V' r (-q):=by
 rcases h with ⟨rfl,hw⟩|⟨a,b,p,n,c,p',n',c',rfl,h1,h2,h3,h4,h5,hw⟩
 ·have:=hw.1
  refine nT _ _ _ V _ ⟨(fun h0=>nomatch h0),fun _ V1 l1=>.inl ⟨?_,by unfold Wd;rw [Rat.neg_num,Rat.neg_den,Int.natAbs_neg];exact hw⟩⟩
  rw [aB (by omega),Rat.neg_num,Rat.neg_den,Int.zero_sub]
 ·obtain ⟨rfl,hn⟩:=h4.inv
  refine nT _ _ _ V _ ⟨fun _=>⟨rfl,rfl,decide (q.num<0),p,n,c,a.add 0,rfl,?_,?_,rfl,rfl,p',n',c',⟨_,rfl,h3⟩,fun V1 l1=>(xC _ (hn.le l1) (Nat.le_trans (af hs.1) hk)).mono ?_⟩,(fun h0=>nomatch h0)⟩
  ·exact h1
  ·simpa [Addr.add] using h2
  ·rintro r V2 l2 IQ
   rw [az] at IQ
   obtain ⟨p2,n2,c2,rfl,g⟩:=IQ
   refine ⟨_,_,_,_,rfl,fun V3 l3 bk hb=>.inr ⟨⟨bk,0,none⟩,decide (-q.num<0),p2,n2,c2,p',n',c',rfl,?_,?_,?_,?_,?_,?_⟩⟩
   ·rw [add_zero'];exact eH (xs:=[_,_,_]) hb rfl
   ·rw [add_zero'];exact eH (xs:=[_,_,_]) hb rfl
   ·rw [add_zero'];exact eH (xs:=[_,_,_]) hb rfl
   ·exact ⟨_,_,_,rfl,g.le l3⟩
   ·exact h5.le (l1.trans (l2.trans l3))
   ·unfold Wd;rw [Rat.neg_num,Rat.neg_den,Int.natAbs_neg];exact hw
theorem _root_.Go.bE.Sz.neg {k:Nat}{q:Rat}(h:Sz k q):Sz k (-q):=by unfold Sz;rw [Rat.neg_num,Rat.neg_den,Int.natAbs_neg];exact h
theorem vN (z:Int)(g:Nat)(h:(g:Int)∣z):(z / g).natAbs<=z.natAbs:=by
 rw [Int.natAbs_ediv_of_dvd h,Int.natAbs_natCast];exact Nat.div_le_self _ _
theorem _root_.Go.bE.Sz.mkRat {k:Nat}{z:Int}{d:Nat}(h1:z.natAbs<2^k)(h2:d<2^k)(hk:0<k):Sz k (mkRat z d):=by
 have h3:1<2^k:=Nat.one_lt_two_pow (by omega)
 unfold Sz
 rw [Rat.num_mkRat,Rat.den_mkRat]
 split
 ·exact ⟨Nat.two_pow_pos k,h3⟩
 ·refine ⟨Nat.lt_of_le_of_lt (vN _ _ (Int.ofNat_dvd_left.2 (Nat.gcd_dvd_right _ _))) h1,Nat.lt_of_le_of_lt (Nat.div_le_self _ _) h2⟩
theorem bJ {a b k m:Nat}(h1:a<2^k)(h2:b<2^m):a*b<2^(k+m):=by rw [Nat.pow_add];exact Nat.mul_lt_mul'' h1 h2
theorem um {x y:Rat}{k m:Nat}(hx:Sz k x)(hy:Sz m y):(x.num*y.den).natAbs<2^(k+m)/\(y.num*x.den).natAbs<2^(k+m)/\(x.num*y.den+y.num*x.den).natAbs<2^(k+m+1)/\x.den*y.den<2^(k+m):=by
 have h1:(x.num*y.den).natAbs<2^(k+m):=by rw [Int.natAbs_mul,Int.natAbs_natCast];exact bJ hx.1 hy.2
 have h2:(y.num*x.den).natAbs<2^(k+m):=by rw [Int.natAbs_mul,Int.natAbs_natCast,Nat.add_comm];exact bJ hy.1 hx.2
 refine ⟨h1,h2,?_,bJ hx.2 hy.2⟩
 rw [Nat.pow_succ];omega
theorem _root_.Go.bE.Sz.add {x y:Rat}{k m:Nat}(hx:Sz k x)(hy:Sz m y):Sz (k+m+1) (x+y):=by
 obtain ⟨-,-,h3,h4⟩:=um hx hy
 rw [Rat.add_def']
 exact Go.bE.Sz.mkRat h3 (Nat.lt_of_lt_of_le h4 (Nat.pow_le_pow_right (by omega) (by omega))) (by omega)
theorem _root_.Go.bE.Sz.sub {x y:Rat}{k m:Nat}(hx:Sz k x)(hy:Sz m y):Sz (k+m+1) (x-y):=by
 rw [Rat.sub_eq_add_neg];exact hx.add hy.neg
theorem _root_.Go.bE.Sz.mul {x y:Rat}{k m:Nat}(hx:Sz k x)(hy:Sz m y):Sz (k+m+1) (x*y):=by
 rw [Rat.mul_def']
 refine (Go.bE.Sz.mkRat (k:=k+m+1) ?_ ?_ (by omega))
 ·rw [Int.natAbs_mul];exact Nat.lt_of_lt_of_le (bJ hx.1 hy.1) (Nat.pow_le_pow_right (by omega) (by omega))
 ·exact Nat.lt_of_lt_of_le (bJ hx.2 hy.2) (Nat.pow_le_pow_right (by omega) (by omega))
theorem jm {V:View}{v w:Value}{x y:Rat}(hx:RR V v x)(hy:RR V w y){k m:Nat}(hk:Sz k x)(hm:Sz m y)(hkm:k+m<1099511627776) :
  ab prog 182 #[v,w] V fun r V'=>RR V' r (x+y):=by
 obtain ⟨r0,r1,r2,rfl⟩:=hx.shape
 obtain ⟨s0,s1,s2,rfl⟩:=hy.shape
 have hxy:x+y=mkRat (x.num*y.den+y.num*x.den) (x.den*y.den):=Rat.add_def' x y
 obtain ⟨b1,b2,b3,b4⟩:=um hk hm
 have gen:(∀SE:View,V.Le SE->ab prog 140 #[.agg #[.int .i64 r0,.int .i64 r1,.pointer r2]] SE fun Vf Tn=>∃PZ:Bool,∃(Kl:OA)(J4 Jb:Nat),Vf=.agg #[.bool PZ,.slice Kl J4 Jb]/\(∀SF:View,Tn.Le SF->ab prog 141 #[.agg #[.int .i64 s0,.int .i64 s1,.pointer s2]] SF fun Vg To=>∃(RJ:OA)(Rj P_:Nat),Vg=.slice RJ Rj P_/\(∀Tp:View,To.Le Tp->ab prog 214 #[.agg #[.bool PZ,.slice Kl J4 Jb],.agg #[.bool false,.slice RJ Rj P_]] Tp fun Vh Ww=>∃P0:Bool,∃(Km:OA)(J5 Jc:Nat),Vh=.agg #[.bool P0,.slice Km J5 Jc]/\(∀Tq:View,Ww.Le Tq->ab prog 140 #[.agg #[.int .i64 s0,.int .i64 s1,.pointer s2]] Tq fun Vi Wx=>∃P4:Bool,∃(RO:OA)(Ro Qc:Nat),Vi=.agg #[.bool P4,.slice RO Ro Qc]/\(∀Ts:View,Wx.Le Ts->ab prog 141 #[.agg #[.int .i64 r0,.int .i64 r1,.pointer r2]] Ts fun Vj YB=>∃(Kn:OA)(J6 Jd:Nat),Vj=.slice Kn J6 Jd/\(∀Wy:View,YB.Le Wy->ab prog 214 #[.agg #[.bool P4,.slice RO Ro Qc],.agg #[.bool false,.slice Kn J6 Jd]] Wy fun Vk YC=>∃P5:Bool,∃(Ko:OA)(J7 Je:Nat),Vk=.agg #[.bool P5,.slice Ko J7 Je]/\(∀Wz:View,YC.Le Wz->ab prog 213 #[.agg #[.bool P0,.slice Km J5 Jc],.agg #[.bool P5,.slice Ko J7 Je]] Wz fun Vl YD=>∃P6:Bool,∃(RV:OA)(Rr Qf:Nat),Vl=.agg #[.bool P6,.slice RV Rr Qf]/\(∀WA:View,YD.Le WA->ab prog 141 #[.agg #[.int .i64 r0,.int .i64 r1,.pointer r2]] WA fun Vm YE=>∃(RW:OA)(Rs Qg:Nat),Vm=.slice RW Rs Qg/\(∀WB:View,YE.Le WB->ab prog 141 #[.agg #[.int .i64 s0,.int .i64 s1,.pointer s2]] WB fun Vn YF=>∃(Kp:OA)(Ru Qh:Nat),Vn=.slice Kp Ru Qh/\(∀WC:View,YF.Le WC->ab prog 209 #[.slice RW Rs Qg,.slice Kp Ru Qh] WC fun Vo YG=>∃(RX:OA)(Rv Qi:Nat),Vo=.slice RX Rv Qi/\(∀WD:View,YG.Le WD->ab prog 190 #[.agg #[.bool P6,.slice RV Rr Qf],.slice RX Rv Qi] WD fun Vp YH=>∃Ss:Int,∃Su:Int,∃RY:OA,Vp=.agg #[.int .i64 Ss,.int .i64 Su,.pointer RY]/\(∀WE:View,YH.Le WE->RR WE (.agg #[.int .i64 Ss,.int .i64 Su,.pointer RY]) (x+y))))))))))))):=by
  intro V1 l1
  refine (fc (hx.le l1) hk (by omega)).mono ?_
  rintro r V2 l2 ⟨p1,n1,c1,rfl,g1⟩
  refine ⟨_,_,_,_,rfl,fun V3 l3=>(en (hy.le (l1.trans (l2.trans l3))) hm (by omega)).mono ?_⟩
  rintro r V4 l4 ⟨p2,n2,c2,rfl,g2⟩
  have q1:=af hk.1
  have q2:=af hk.2
  have q3:=af hm.1
  have q4:=af hm.2
  refine ⟨_,_,_,rfl,fun V5 l5=>(gK _ false (g1.le (l3.trans (l4.trans l5))) (g2.le l5) (by omega)).mono ?_⟩
  rintro r V6 l6 h6
  rw [az,oo,ae] at h6
  obtain ⟨p3,n3,c3,rfl,g3⟩:=h6
  refine ⟨_,_,_,_,rfl,fun V7 l7=>(fc (hy.le (l1.trans (l2.trans (l3.trans (l4.trans (l5.trans (l6.trans l7))))))) hm (by omega)).mono ?_⟩
  rintro r V8 l8 ⟨p4,n4,c4,rfl,g4⟩
  refine ⟨_,_,_,_,rfl,fun V9 l9=>(en (hx.le (l1.trans (l2.trans (l3.trans (l4.trans (l5.trans (l6.trans (l7.trans (l8.trans l9))))))))) hk (by omega)).mono ?_⟩
  rintro r jG l10 ⟨p5,n5,c5,rfl,g5⟩
  refine ⟨_,_,_,rfl,fun jZ bI=>(gK _ false (g4.le (l9.trans (l10.trans bI))) (g5.le bI) (by omega)).mono ?_⟩
  rintro r mQ bV h12
  rw [az,oo,ae] at h12
  obtain ⟨p6,n6,c6,rfl,g6⟩:=h12
  have q5:=af b1
  have q6:=af b2
  refine ⟨_,_,_,_,rfl,fun qv cC=>(xB _ _ (g3.le (l7.trans (l8.trans (l9.trans (l10.trans (bI.trans (bV.trans cC))))))) (g6.le cC) (by omega) (by omega)).mono ?_⟩
  rintro r mS du IM
  rw [az,az] at IM
  obtain ⟨p7,n7,c7,rfl,g7⟩:=IM
  have Gm:=l1.trans (l2.trans (l3.trans (l4.trans (l5.trans (l6.trans (l7.trans (l8.trans (l9.trans (l10.trans (bI.trans (bV.trans (cC.trans du))))))))))))
  refine ⟨_,_,_,_,rfl,fun lH dv=>(en (hx.le (Gm.trans dv)) hk (by omega)).mono ?_⟩
  rintro r lP cX ⟨p8,n8,c8,rfl,g8⟩
  refine ⟨_,_,_,rfl,fun mT c_=>(en (hy.le (Gm.trans (dv.trans (cX.trans c_)))) hm (by omega)).mono ?_⟩
  rintro r qt cR ⟨p9,n9,c9,rfl,g9⟩
  refine ⟨_,_,_,rfl,fun rK dA=>(gx (g8.le (c_.trans (cR.trans dA))) (g9.le dA) (by omega)).mono ?_⟩
  rintro r yV fG ⟨G5,n10,c10,rfl,g10⟩
  rw [ae,ae] at g10
  have q7:=af b3
  have q8:=af b4
  refine ⟨_,_,_,rfl,fun ui fv=>(ck _ (g7.le (dv.trans (cX.trans (c_.trans (cR.trans (dA.trans (fG.trans fv))))))) (g10.le fv) (by omega) (by omega)).mono ?_⟩
  rintro r uj gF h22
  rw [az,ae,←hxy] at h22
  obtain ⟨n,d,p,rfl⟩:=h22.shape
  exact ⟨_,_,_,rfl,fun xu gY=>h22.le gY⟩
 have lift:∀V1:View,V.Le V1->∀V2:View,V1.Le V2->V.Le V2:=fun _ h _ h'=>h.trans h'
 rcases hx with ⟨ex,wx⟩|⟨a,b,p,n,c,p',n',c',ex,-,-,-,-,-,wx⟩
 ·rcases hy with ⟨ey,wy⟩|⟨a,b,p,n,c,p',n',c',ey,-,-,-,-,-,wy⟩
  ·simp only [Value.agg.injEq,Array.mk.injEq,List.cons.injEq,Value.int.injEq,Value.pointer.injEq,true_and,and_true] at ex ey
   obtain ⟨rfl,rfl,rfl⟩:=ex
   obtain ⟨rfl,rfl,rfl⟩:=ey
   obtain ⟨Sl,Ym⟩:=wx
   obtain ⟨Sm,Yn⟩:=wy
   have dx:=x.den_nz
   have dy:=y.den_nz
   have e1:i64.wrap ((x.den:Int)-1+1)=x.den:=by rw [aB (by omega)];omega
   have e2:i64.wrap ((y.den:Int)-1+1)=y.den:=by rw [aB (by omega)];omega
   refine jV _ _ _ _ _ _ V _ ⟨fun _=>⟨fun _ _=>True,⟨fun _=>⟨fun h1=>⟨fun h2 V1 l1=>?_,fun h2=>?_⟩,fun h1=>?_⟩,(fun h=>nomatch h)⟩,fun _ V1 l1 _=>⟨by trivial,fun V2 l2=>gen V2 (l1.trans l2)⟩⟩,(fun h=>nomatch h)⟩
   ·have h1:x.den=1:=by rw [beq_iff_eq] at h1;omega
    have h2:y.den=1:=by rw [beq_iff_eq] at h2;omega
    rw [aB (by omega)]
    refine (iN _ (by omega) (by omega)).mono ?_
    rintro r V2 l2 hr
    have e:((x.num+y.num:Int):Rat)=x+y:=by
     rw [hxy,h1,h2]
     simp only [Nat.mul_one,Int.natCast_one,Int.mul_one]
     exact (mkRat_one _).symm
    rw [e] at hr
    obtain ⟨n,d,p,rfl⟩:=hr.shape
    exact ⟨_,_,_,rfl,fun V3 l3=>hr.le l3⟩
   all_goals
    rw [e1,e2]
    refine fun V4 l4=>(fK _ _ Sl (by omega)).mono ?_
    rintro r V5 l5 ⟨z1,rfl,hz1⟩
    refine ⟨_,_,rfl,fun V6 l6=>(fK _ _ Sm (by omega)).mono ?_⟩
    rintro r V7 l7 ⟨z2,rfl,hz2⟩
    refine ⟨_,_,rfl,fun V8 l8=>(fK _ _ (by omega) (by omega)).mono ?_⟩
    rintro r V9 l9 ⟨z3,rfl,hz3⟩
    refine ⟨_,_,rfl,fun g1=>⟨fun g2=>⟨fun g3=>⟨fun g4=>⟨fun g5 jG l10=>?_,fun _=>⟨(),by and_intros<;>rfl,trivial⟩⟩,fun _=>⟨(),by and_intros<;>rfl,trivial⟩⟩,fun _=>⟨(),by and_intros<;>rfl,trivial⟩⟩,fun _=>⟨(),by and_intros<;>rfl,trivial⟩⟩,fun _=>⟨(),by and_intros<;>rfl,trivial⟩⟩
    rw [decide_eq_true_eq] at g1 g2 g3 g4 g5
    have k1:=hz1 g1
    have k2:=hz2 g2
    have k3:=hz3 g3
    rw [←k1] at g1
    rw [←k2] at g2
    rw [←Int.natCast_mul,Int.natAbs_natCast] at g3
    rw [←Int.natCast_mul] at k3
    rw [aB (by omega)] at g4 g5 ⊢
    rw [k3]
    refine (nI _ _ (by omega) g3 (Nat.mul_ne_zero dx dy)).mono ?_
    rintro r jZ bI hr
    rw [k1,k2,←hxy] at hr
    obtain ⟨n,d,p,rfl⟩:=hr.shape
    exact ⟨_,_,_,rfl,fun V3 l3=>hr.le l3⟩
  ·simp only [Value.agg.injEq,Array.mk.injEq,List.cons.injEq,Value.int.injEq,Value.pointer.injEq,true_and,and_true] at ex ey
   obtain ⟨rfl,rfl,rfl⟩:=ex
   obtain ⟨rfl,rfl,rfl⟩:=ey
   exact jV _ _ _ _ _ _ V _ ⟨fun _=>⟨fun _ _=>True,⟨(fun h=>nomatch h),fun _=>⟨(),by and_intros<;>rfl,trivial⟩⟩,fun _ V1 l1 _=>⟨by trivial,fun V2 l2=>gen V2 (l1.trans l2)⟩⟩,(fun h=>nomatch h)⟩
 ·simp only [Value.agg.injEq,Array.mk.injEq,List.cons.injEq,Value.int.injEq,Value.pointer.injEq,true_and,and_true] at ex
  obtain ⟨rfl,rfl,rfl⟩:=ex
  exact jV _ _ _ _ _ _ V _ ⟨(fun h=>nomatch h),fun _=>gen⟩
end Go.Proofs.Tryz
