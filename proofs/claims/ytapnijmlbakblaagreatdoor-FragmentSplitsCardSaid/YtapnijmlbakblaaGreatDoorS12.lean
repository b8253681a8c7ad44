import Derived.Test.YtapnijmlbakblaaGreatDoorS11
import Derived.Test.YtapnijmlbakblaaGreatDoorS7
set_option linter.unusedVariables false
open Go.IntKind (i64 u64 u32)
namespace Go.Proofs.Tryz
open Go.Eng Go.Big
theorem _root_.Go.Eng.RD.rd0 {V:View}{p:OA}{n c:Nat}{ds:List Nat}(h:RD V p n c ds){i:Int}{K:Int->Prop}(j:Nat)(hj:i=j)(hn:j<ds.length)
  (hK:K ((ds[j]:Nat):Int)):(p.isSome=true)/\(0<=i/\i<(n:Int))/\∃x:Int,(∃a,ah p j=some a/\V.at a (.int .u32 x))/\K x:=by
 have:=h.rd (K:=K) j hj hn hK;subst hj;simpa only [Int.toNat_natCast,Nat.mul_one] using this
theorem MK {us:List Nat}{rest:List Value}{k:Nat}(h:k<us.length):(aB us++rest)[0+k*1]?=some (.int .u32 (us[k]:Int)):=by
 rw [Nat.zero_add,Nat.mul_one,List.getElem?_append_left (by simpa using h)];exact gg h
theorem ux {us:List Nat}{rest:List Value}{k x:Nat}(h:k<us.length):(aB us++rest).set (0+k*1) (.int .u32 (x:Int))=aB (us.set k x)++rest:=by
 rw [Nat.zero_add,Nat.mul_one,List.set_append_left _ _ (by simpa using h),bD]
theorem Dx {y m t s:Nat}(hm:(ai y).length=m)(h0:0<m)(ht:t=(ai y)[m-1]'(by omega))(hs:s=32-bG t) :
  s<32/\(ai (y*2^s)).length=m/\2147483648*4294967296^(m-1)<=y*2^s:=by
 have d:t<4294967296:=by rw [ht];exact (aA y).get _
 have a:t≠0:=by rw [ht];have:=(je y).last (by omega);simpa [hm] using this
 have f:=pX t;have g:=pV a;have b:bG t<=32:=fR.2 (by omega);have h:0<bG t:=by unfold bG;rw [if_neg a];omega
 have e:=gJ (ai y) (m-1) (by omega);rw [af,List.drop_of_length_le (by omega),←ht] at e;simp only [eA,Nat.mul_zero,Nat.add_zero] at e;have c:=gj ((aA y).take (m-1));rw [List.length_take,Nat.min_eq_left (by omega)] at c;have i:2^bG t*2^s=4294967296:=by rw [←Nat.pow_add,hs,Nat.add_sub_cancel' b]
 have j:2^(bG t-1)*2^s=2147483648:=by rw [←Nat.pow_add,show bG t-1+s=31 from by omega]
 have k:2147483648*4294967296^(m-1)<=y*2^s:=by
  have:2^(bG t-1)*2^s*4294967296^(m-1)<=t*2^s*4294967296^(m-1):=Nat.mul_le_mul_right _ (Nat.mul_le_mul_right _ g);rw [j] at this;have o:t*2^s*4294967296^(m-1)=4294967296^(m-1)*t*2^s:=by grind
  have p:4294967296^(m-1)*t*2^s<=y*2^s:=Nat.mul_le_mul_right _ (by omega);omega
 refine ⟨by omega,?_,k⟩
 have l:y*2^s<4294967296^m:=by
  have n:y<4294967296^(m-1)*(t+1):=by rw [Nat.mul_add,Nat.mul_one];omega
  have q:4294967296^(m-1)*(t+1)*2^s<=4294967296^(m-1)*2^bG t*2^s:=Nat.mul_le_mul_right _ (Nat.mul_le_mul_left _ f)
  have r:4294967296^(m-1)*2^bG t*2^s=4294967296^m:=by
   rw [Nat.mul_assoc,i,←Nat.pow_succ,Nat.succ_eq_add_one,Nat.sub_add_cancel h0]
  have u:y*2^s<4294967296^(m-1)*(t+1)*2^s:=Nat.mul_lt_mul_of_pos_right n (Nat.two_pow_pos s);omega
 have b1:=aD.2 l
 have b2:m-1<(ai (y*2^s)).length:=by
  rw [sG];have:1*4294967296^(m-1)<=2147483648*4294967296^(m-1):=Nat.mul_le_mul_right _ (by omega);omega
 omega
theorem WI {us:List Nat}{k:Nat}(h:k+2<us.length)(hz:val (us.drop (k+3))=0) :
  val us=((us[k+2]*4294967296+us[k+1])*4294967296+us[k])*4294967296^k+val (us.take k):=by
 have a:=gJ us k (by omega);rw [List.drop_eq_getElem_cons (i:=k+1) (by omega),List.drop_eq_getElem_cons (i:=k+1+1) (by omega),bq,bq] at a;rw [show k+1+1+1=k+3 from rfl,hz] at a;rw [a];grind
theorem WH {us:List Nat}{k:Nat}(h:us.length=k+2):val us=(us[k+1]*4294967296+us[k])*4294967296^k+val (us.take k):=by
 have a:=gJ us k (by omega);rw [List.drop_eq_getElem_cons (i:=k+1) (by omega),bq,List.drop_of_length_le (by omega),eA] at a;rw [a];grind
theorem br (us:List Nat)(k:Nat)(h:k<=us.length):val us=val (us.take k)+4294967296^k*val (us.drop k):=by
 conv=>lhs;rw [←List.take_append_drop k us]
 rw [df,List.length_take,Nat.min_eq_left h]
theorem hU {us:List Nat}{k:Nat}(h:val us<4294967296^k)(hk:k<=us.length):val (us.drop k)=0:=by
 have:=br us k hk;rcases Nat.eq_zero_or_pos (val (us.drop k)) with e|e
 ·exact e
 ·have:4294967296^k*1<=4294967296^k*val (us.drop k):=Nat.mul_le_mul_left _ e;omega
theorem _root_.Go.Eng.RD.TA {V:View}{p:OA}{n c:Nat}{ds:List Nat}(h:RD V p n c ds){i:Int}{K:Int->Prop}(j:Nat)(hj:i=j){d:Nat}(hn:ds[j]?=some d)
  (hK:K (d:Int)):(p.isSome=true)/\(0<=i/\i<(n:Int))/\∃x:Int,(∃a,ah p (i.toNat*1)=some a/\V.at a (.int .u32 x))/\K x:=by
 obtain ⟨b,e⟩:=List.getElem?_eq_some_iff.1 hn;exact h.rd j hj b (by rw [e];exact hK)
theorem jg {us:List Nat}{rest:List Value}{k d:Nat}(h:us[k]?=some d):(aB us++rest)[0+k*1]?=some (.int .u32 (d:Int)):=by
 obtain ⟨a,b⟩:=List.getElem?_eq_some_iff.1 h;rw [MK a,b]
structure B8 (us vs:List Nat) (j G i b c:Nat) (fs:List Nat):Prop where
 b1:b<=1
 c1:c<4294967296
 hi:i<=vs.length
 len:fs.length=us.length
 fk:bV fs
 dr:fs.drop (j+i)=us.drop (j+i)
 tk:fs.take j=us.take j
 eq:val (fs.take (j+i))+4294967296^j*(G*val (vs.take i))=val (us.take (j+i))+4294967296^j*4294967296^i*(c+b)
theorem B8.read {us vs:List Nat}{j G i b c:Nat}{fs:List Nat}(h:B8 us vs j G i b c fs)(hj:j+i<us.length):∃u,fs[j+i]?=some u/\us[j+i]?=some u:=by
 have:=congrArg (fun l=>l[0]?) h.dr;simp only [List.getElem?_drop,Nat.add_zero] at this;exact ⟨us[j+i],by rw [this,List.getElem?_eq_getElem hj],List.getElem?_eq_getElem hj⟩
theorem B8.step {us vs:List Nat}{j G i b c:Nat}{fs:List Nat}(h:B8 us vs j G i b c fs)(hG:G<4294967296)(hdv:bV vs)(HH:bV us)(hi:i<vs.length)(hj:j+i<us.length) :
  ∃u d ob od cn cb:Nat,vs[i]?=some d/\fs[j+i]?=some u/\u64.wrap ((c:Int)+u64.wrap ((G:Int)*u64.wrap (d:Int)))=(cn:Int)/\(cn:Int).fdiv (2^32)=(cb:Int) /\
   (u64.wrap (u64.wrap (u64.wrap (u:Int)-bz .and .u64 (cn:Int) 4294967295)-(b:Int))).fdiv (2^63)=(ob:Int) /\
   u32.wrap (u64.wrap (u64.wrap (u64.wrap (u:Int)-bz .and .u64 (cn:Int) 4294967295)-(b:Int)))=(od:Int)/\od<4294967296 /\
   B8 us vs j G (i+1) ob cb (fs.set (j+i) od):=by
 obtain ⟨u,g,a⟩:=h.read hj;obtain ⟨k,l,-,m,n,z,o,p⟩:=h;have A:=hdv.get (i:=i) hi;have B:u<4294967296:=HH u (List.mem_of_getElem? a);have C:G*vs[i]<=4294967295*4294967295:=Nat.mul_le_mul (by omega) (by omega);refine ⟨u,vs[i],?_⟩
 have q:u64.wrap ((c:Int)+u64.wrap ((G:Int)*u64.wrap ((vs[i]:Nat):Int)))=((c+G*vs[i]:Nat):Int):=by
  rw [aN (x:=((vs[i]:Nat):Int)) (by omega),←Int.natCast_mul];generalize G*vs[i]=gd at *;rw [aN (x:=((gd:Nat):Int)) (by omega),aN (by omega)];omega
 have r:=Ao (x:=((u:Int)-((c+G*vs[i])%4294967296:Nat)-b)%18446744073709551616) p l k B rfl;have hand:bz .and .u64 ((c+G*vs[i]:Nat):Int) 4294967295=(((c+G*vs[i])%4294967296:Nat):Int):=Ga _ (by omega)
 have e:u64.wrap (u64.wrap (u64.wrap (u:Int)-(((c+G*vs[i])%4294967296:Nat):Int))-(b:Int))=((u:Int)-((c+G*vs[i])%4294967296:Nat)-b)%18446744073709551616:=by
  rw [aN (x:=(u:Int)) (by omega),rR,rR];omega
 have s:(c+G*vs[i]) / 4294967296<4294967296:=by
  generalize G*vs[i]=gd at *;omega
 generalize ((u:Int)-((c+G*vs[i])%4294967296:Nat)-b)%18446744073709551616=xx at *;obtain ⟨E,F,H,t⟩:=r;obtain ⟨ob,w⟩:∃ob:Nat,xx / 9223372036854775808=ob:=⟨(xx / 9223372036854775808).toNat,by omega⟩;obtain ⟨od,f⟩:∃od:Nat,xx%4294967296=od:=⟨(xx%4294967296).toNat,by omega⟩;rw [w,f] at t;simp only [Int.toNat_natCast] at t;have y:od<4294967296:=by omega
 have D:ob<=1:=by omega
 refine ⟨ob,od,c+G*vs[i],(c+G*vs[i]) / 4294967296,List.getElem?_eq_getElem hi,g,q,?_,?_,?_,y,D,s,hi,by simpa using m,n.set _ _ y,?_,?_,?_⟩
 ·rw [fV]
 ·rw [hand,e,KH,w]
 ·rw [hand,e,iA,f]
 ·rw [List.drop_set_of_lt (by omega)];have:=congrArg (List.drop 1) z;simpa [List.drop_drop,Nat.add_comm,Nat.add_assoc,Nat.add_left_comm] using this
 ·rw [List.take_set,List.set_eq_of_length_le (by simp;omega)];exact o
 ·have v:us[j+i]=u:=by rw [List.getElem?_eq_getElem hj] at a;exact Option.some.inj a
  rw [show j+(i+1)=j+i+1 from by omega,aJ _ _ _ (by omega),au us (j+i) (by omega),au vs i hi,Nat.pow_succ,Nat.pow_add,v];exact t
theorem Ja {ks us:List Nat}{j t a:Nat}(h1:ks.take j=us.take j)(hk:j<=ks.length)(hu:j<=us.length)(h:val ks+4294967296^j*a=val us+4294967296^j*t):val (ks.drop j)+a=val (us.drop j)+t:=by
 have b:=br ks j hk;have c:=br us j hu;rw [h1] at b;have:4294967296^j*(val (ks.drop j)+a)=4294967296^j*(val (us.drop j)+t):=by rw [Nat.mul_add,Nat.mul_add];omega
 exact Nat.eq_of_mul_eq_mul_left (Nat.pow_pos (by omega)) this
theorem B8.fin {us vs:List Nat}{j G b c:Nat}{fs:List Nat}(h:B8 us vs j G vs.length b c fs)(HH:bV us)(hj:j+vs.length<us.length)(hz:val (us.drop (j+vs.length+1))=0) :
  ∃u ob od:Nat,fs[j+vs.length]?=some u /\
   (u64.wrap (u64.wrap (u64.wrap (u:Int)-(c:Int))-(b:Int))).fdiv (2^63)=(ob:Int) /\
   u32.wrap (u64.wrap (u64.wrap (u64.wrap (u:Int)-(c:Int))-(b:Int)))=(od:Int)/\od<4294967296/\ob<=1 /\
   bV (fs.set (j+vs.length) od)/\(fs.set (j+vs.length) od).length=us.length/\(fs.set (j+vs.length) od).take j=us.take j/\val ((fs.set (j+vs.length) od).drop (j+vs.length+1))=0 /\
   val ((fs.set (j+vs.length) od).drop j)+G*val vs=val (us.drop j)+4294967296^(vs.length+1)*ob:=by
 obtain ⟨u,q,f⟩:=h.read hj;obtain ⟨r,i,-,s,t,D,v,l⟩:=h;have E:u<4294967296:=HH u (List.mem_of_getElem? f);have w:us[j+vs.length]=u:=by rw [List.getElem?_eq_getElem hj] at f;exact Option.some.inj f
 rw [List.take_length] at l;have k:=Ao (g:=G) (d:=0) (Y:=val vs) (x:=((u:Int)-((c+G*0)%4294967296:Nat)-b)%18446744073709551616) l i r E rfl;simp only [Nat.mul_zero,Nat.add_zero] at k;rw [Nat.mod_eq_of_lt i,Nat.div_eq_of_lt i,Nat.zero_add] at k
 have m:u64.wrap (u64.wrap (u64.wrap (u:Int)-(c:Int))-(b:Int))=((u:Int)-(c:Int)-b)%18446744073709551616:=by
  rw [aN (x:=(u:Int)) (by omega),rR,rR];omega
 generalize ((u:Int)-(c:Int)-b)%18446744073709551616=xx at *;obtain ⟨K,L,M,y⟩:=k;obtain ⟨ob,B⟩:∃ob:Nat,xx / 9223372036854775808=ob:=⟨(xx / 9223372036854775808).toNat,by omega⟩;obtain ⟨od,n⟩:∃od:Nat,xx%4294967296=od:=⟨(xx%4294967296).toNat,by omega⟩;rw [B,n] at y;simp only [Int.toNat_natCast] at y;have C:od<4294967296:=by omega
 have F:ob<=1:=by omega
 obtain ⟨e,a⟩:∃e,e=fs.set (j+vs.length) od:=⟨_,rfl⟩;refine ⟨u,ob,od,q,by rw [m,KH,B],by rw [m,iA,n],C,F,?_⟩;rw [←a];have z:e.length=us.length:=by rw [a];simpa using s
 have A:bV e:=by rw [a];exact t.set _ _ C
 have o:e.take j=us.take j:=by rw [a,List.take_set,List.set_eq_of_length_le (by simp;omega)];exact v
 have p:e.drop (j+vs.length+1)=us.drop (j+vs.length+1):=by
  rw [a,List.drop_set_of_lt (by omega)];have:=congrArg (List.drop 1) D;simpa [List.drop_drop,Nat.add_comm,Nat.add_assoc,Nat.add_left_comm] using this
 refine ⟨A,z,o,by rw [p];exact hz,Ja o (by omega) (by omega) ?_⟩;have H:=br e (j+vs.length+1) (by omega);have I:=br us (j+vs.length+1) (by omega);have N:val (e.take (j+vs.length+1))=val (fs.take (j+vs.length))+4294967296^j*4294967296^vs.length*od:=by rw [a,aJ _ _ _ (by omega),Nat.pow_add]
 have O:val (us.take (j+vs.length+1))=val (us.take (j+vs.length))+4294967296^j*4294967296^vs.length*u:=by rw [au us (j+vs.length) (by omega),Nat.pow_add,w]
 rw [p,hz,Nat.mul_zero,Nat.add_zero] at H;rw [hz,Nat.mul_zero,Nat.add_zero] at I;have J:4294967296^j*(4294967296^vs.length*4294967296)*ob=4294967296^j*(4294967296^(vs.length+1)*ob):=by rw [Nat.pow_succ];grind
 rw [J] at y;omega
structure B5 (ks vs:List Nat) (j i c:Nat) (gs:List Nat):Prop where
 c1:c<=1
 hi:i<=vs.length
 len:gs.length=ks.length
 fk:bV gs
 dr:gs.drop (j+i)=ks.drop (j+i)
 tk:gs.take j=ks.take j
 eq:val (gs.take (j+i))+4294967296^j*4294967296^i*c=val (ks.take (j+i))+4294967296^j*val (vs.take i)
theorem B5.read {ks vs:List Nat}{j i c:Nat}{gs:List Nat}(h:B5 ks vs j i c gs)(hj:j+i<ks.length):∃u,gs[j+i]?=some u/\ks[j+i]?=some u:=by
 have:=congrArg (fun l=>l[0]?) h.dr;simp only [List.getElem?_drop,Nat.add_zero] at this;exact ⟨ks[j+i],by rw [this,List.getElem?_eq_getElem hj],List.getElem?_eq_getElem hj⟩
theorem B5.step {ks vs:List Nat}{j i c:Nat}{gs:List Nat}(h:B5 ks vs j i c gs)(hdv:bV vs)(hdk:bV ks)(hi:i<vs.length)(hj:j+i<ks.length) :
  ∃u d od cn cb:Nat,vs[i]?=some d/\gs[j+i]?=some u/\u64.wrap ((c:Int)+u64.wrap (u64.wrap (u:Int)+u64.wrap (d:Int)))=(cn:Int)/\(cn:Int).fdiv (2^32)=(cb:Int) /\
   u32.wrap (cn:Int)=(od:Int)/\B5 ks vs j (i+1) cb (gs.set (j+i) od):=by
 obtain ⟨u,b,a⟩:=h.read hj;obtain ⟨p,-,e,f,q,g,k⟩:=h;have r:=hdv.get (i:=i) hi;have s:u<4294967296:=hdk u (List.mem_of_getElem? a);have l:ks[j+i]=u:=by rw [List.getElem?_eq_getElem hj] at a;exact Option.some.inj a
 obtain ⟨t5,m⟩:∃t5,t5=c+u+vs[i]:=⟨_,rfl⟩;have n:=zd k m
 have o:u64.wrap ((c:Int)+u64.wrap (u64.wrap (u:Int)+u64.wrap ((vs[i]:Nat):Int)))=(t5:Int):=by
  rw [aN (x:=((vs[i]:Nat):Int)) (by omega),aN (x:=(u:Int)) (by omega),aN (x:=(u:Int)+_) (by omega),aN (by omega)];omega
 refine ⟨u,vs[i],t5%4294967296,t5,t5 / 4294967296,List.getElem?_eq_getElem hi,b,o,by rw [fV],by rw [iA];omega,by omega,hi,by simpa using e,f.set _ _ (by omega),?_,?_,?_⟩
 ·rw [List.drop_set_of_lt (by omega)];have:=congrArg (List.drop 1) q;simpa [List.drop_drop,Nat.add_comm,Nat.add_assoc,Nat.add_left_comm] using this
 ·rw [List.take_set,List.set_eq_of_length_le (by simp;omega)];exact g
 ·rw [show j+(i+1)=j+i+1 from by omega,aJ _ _ _ (by omega),au ks (j+i) (by omega),au vs i hi,Nat.pow_succ,Nat.pow_add,l];exact n
theorem B5.fin {ks vs:List Nat}{j c:Nat}{gs:List Nat}(h:B5 ks vs j vs.length c gs)(hdk:bV ks)(hj:j+vs.length<ks.length)(hz:val (ks.drop (j+vs.length+1))=0) :
  ∃u od kp:Nat,gs[j+vs.length]?=some u/\u32.wrap ((u:Int)+u32.wrap (c:Int))=(od:Int)/\kp<=1 /\
   bV (gs.set (j+vs.length) od)/\(gs.set (j+vs.length) od).length=ks.length/\(gs.set (j+vs.length) od).take j=ks.take j/\val ((gs.set (j+vs.length) od).drop (j+vs.length+1))=0 /\
   val ((gs.set (j+vs.length) od).drop j)+4294967296^(vs.length+1)*kp=val (ks.drop j)+val vs:=by
 obtain ⟨u,l,b⟩:=h.read hj;obtain ⟨v,-,m,n,w,o,f⟩:=h;have C:u<4294967296:=hdk u (List.mem_of_getElem? b);have p:ks[j+vs.length]=u:=by rw [List.getElem?_eq_getElem hj] at b;exact Option.some.inj b
 rw [List.take_length] at f;have g:=zd (d:=0) (u:=u) (Y:=val vs) (t:=c+u) f (by omega);simp only [Nat.mul_zero,Nat.add_zero] at g;have y:(c+u)%4294967296<4294967296:=by omega
 have q:(c+u) / 4294967296<=1:=by omega
 have hw:u32.wrap ((u:Int)+u32.wrap (c:Int))=(((c+u)%4294967296:Nat):Int):=by
  rw [qB (x:=(c:Int)) (by omega),iA];omega
 generalize (c+u)%4294967296=od at *;generalize (c+u) / 4294967296=kp at *;obtain ⟨a,e⟩:∃a,a=gs.set (j+vs.length) od:=⟨_,rfl⟩;refine ⟨u,od,kp,l,hw,q,?_⟩;rw [←e];have r:a.length=ks.length:=by rw [e];simpa using m
 have s:bV a:=by rw [e];exact n.set _ _ y
 have i:a.take j=ks.take j:=by rw [e,List.take_set,List.set_eq_of_length_le (by simp;omega)];exact o
 have k:a.drop (j+vs.length+1)=ks.drop (j+vs.length+1):=by
  rw [e,List.drop_set_of_lt (by omega)];have:=congrArg (List.drop 1) w;simpa [List.drop_drop,Nat.add_comm,Nat.add_assoc,Nat.add_left_comm] using this
 refine ⟨s,r,i,by rw [k];exact hz,Ja i (by omega) (by omega) ?_⟩;have z:=br a (j+vs.length+1) (by omega);have A:=br ks (j+vs.length+1) (by omega);have D:val (a.take (j+vs.length+1))=val (gs.take (j+vs.length))+4294967296^j*4294967296^vs.length*od:=by rw [e,aJ _ _ _ (by omega),Nat.pow_add]
 have E:val (ks.take (j+vs.length+1))=val (ks.take (j+vs.length))+4294967296^j*4294967296^vs.length*u:=by rw [au ks (j+vs.length) (by omega),Nat.pow_add,p]
 rw [k,hz,Nat.mul_zero,Nat.add_zero] at z;rw [hz,Nat.mul_zero,Nat.add_zero] at A;have B:4294967296^j*(4294967296^vs.length*4294967296)*kp=4294967296^j*(4294967296^(vs.length+1)*kp):=by rw [Nat.pow_succ];grind
 rw [B] at g;omega
structure GK (v1 v2 v' u0 u1 u2 t' B T Y:Nat):Prop where
 hY:Y=(v1*4294967296+v2)*B+v'
 hT:T=((u0*4294967296+u1)*4294967296+u2)*B+t'
 pS:v'<B
 E3:t'<B
 WK:2147483648<=v1
 Y4:v1<4294967296
 WL:v2<4294967296
 u0u:u0<4294967296
 u1u:u1<4294967296
 Y3:u2<4294967296
 lt:T<4294967296*Y
structure GI (v1 f T Y G ρ:Nat):Prop where
 r:ρ<4294967296
 g:G<=4294967297
 eq:G*v1+ρ=f
 lt:T<(G+1)*Y
structure GF (T Y G:Nat):Prop where
 g:G<4294967296
 lt:T<(G+1)*Y
 gt:G*Y<T+Y
section
variable {v1 v2 v' u0 u1 u2 t' B T Y G ρ:Nat}
theorem GK.start (h:GK v1 v2 v' u0 u1 u2 t' B T Y):GI v1 (u0*4294967296+u1) T Y ((u0*4294967296+u1) / v1) ((u0*4294967296+u1)%v1):=by
 have c:=zQ h.hY h.hT h.pS h.lt;have d:=h.WK;have e:=h.Y4;have f:=h.WL;have a:=Nat.div_add_mod (u0*4294967296+u1) v1;have b:=Nat.mod_lt (u0*4294967296+u1) (show 0<v1 by omega);refine ⟨by omega,?_,by rw [Nat.mul_comm];exact a,?_⟩
 ·have:(u0*4294967296+u1) / v1<4294967298:=by
   rw [Nat.div_lt_iff_lt_mul (by omega)];omega
  omega
 ·rw [Nat.mul_comm] at a;exact Jo h.hY h.hT h.E3 h.Y3 a b
theorem GK.Nr (h:GK v1 v2 v' u0 u1 u2 t' B T Y)(hG:4294967296<=G):T<G*Y:=Nat.lt_of_lt_of_le h.lt (Nat.mul_le_mul_right _ hG)
theorem GK.dec (h:GK v1 v2 v' u0 u1 u2 t' B T Y)(hi:GI v1 (u0*4294967296+u1) T Y G ρ)(hd:ρ*4294967296+u2<G*v2):T<G*Y:=HD h.hY h.hT h.E3 hi.eq hd
theorem GK.last (h:GK v1 v2 v' u0 u1 u2 t' B T Y)(hi:GI v1 (u0*4294967296+u1) T Y G ρ)(hG:G<4294967296)(hd:G*v2<=ρ*4294967296+u2):GF T Y G:=
 ⟨hG,hi.lt,zP h.hY h.hT h.pS (by have:=h.WK;omega) (by omega) hi.eq hd (by omega)⟩
theorem GK.down (h:GK v1 v2 v' u0 u1 u2 t' B T Y)(hi:GI v1 (u0*4294967296+u1) T Y G ρ)(h1:T<G*Y):1<=G/\(G-1)*v1+(ρ+v1)=u0*4294967296+u1/\T<(G-1+1)*Y:=by
 have a:1<=G:=by
  rcases Nat.eq_zero_or_pos G with b|b
  ·subst b;omega
  ·exact b
 have:=hi.eq;refine ⟨a,?_,by rw [Nat.sub_add_cancel a];exact h1⟩;have:G*v1=(G-1)*v1+v1:=by conv=>lhs;rw [←Nat.sub_add_cancel a,Nat.add_mul,Nat.one_mul]
 omega
theorem GK.Ns (h:GK v1 v2 v' u0 u1 u2 t' B T Y)(hi:GI v1 (u0*4294967296+u1) T Y G ρ)(h1:T<G*Y)(h2:4294967296<=ρ+v1):1<=G/\GF T Y (G-1):=by
 obtain ⟨a,e,b⟩:=h.down hi h1;have d:=zQ h.hY h.hT h.pS h.lt;have i:=h.WL;have j:=h.WK;have k:=hi.g
 have f:G-1<4294967296:=by
  rcases Nat.lt_or_ge (G-1) 4294967296 with c|c
  ·exact c
  ·have:=Nat.mul_le_mul_right v1 c;omega
 refine ⟨a,f,b,zP h.hY h.hT h.pS (by omega) (by omega) e ?_ (by omega)⟩;have l:(G-1)*v2<=4294967295*4294967295:=Nat.mul_le_mul (by omega) (by omega);omega
theorem GK.Nt (h:GK v1 v2 v' u0 u1 u2 t' B T Y)(hi:GI v1 (u0*4294967296+u1) T Y G ρ)(h1:T<G*Y)(h2:ρ+v1<4294967296):1<=G/\GI v1 (u0*4294967296+u1) T Y (G-1) (ρ+v1):=by
 obtain ⟨a,c,b⟩:=h.down hi h1;have d:=hi.g;exact ⟨a,h2,by omega,c,b⟩
theorem GK.words (h:GK v1 v2 v' u0 u1 u2 t' B T Y) :
  bz .or .u64 (u64.wrap (u64.wrap (u0:Int)*2^32)) (u64.wrap (u1:Int))=((u0*4294967296+u1:Nat):Int) /\
  u64.wrap (((u0*4294967296+u1:Nat):Int).tdiv (v1:Int))=(((u0*4294967296+u1) / v1:Nat):Int) /\
  ((u0*4294967296+u1:Nat):Int).tmod (v1:Int)=(((u0*4294967296+u1)%v1:Nat):Int):=by
 have a:=h.u0u;have b:=h.u1u;have c:((2:Int)^32)=4294967296:=by decide
 refine ⟨?_,?_,?_⟩
 ·rw [c,aN (x:=(u0:Int)) (by omega),aN (x:=(u1:Int)) (by omega),aN (by omega),Dc _ _ a b];omega
 ·rw [Int.tdiv_eq_ediv_of_nonneg (by omega),←Int.natCast_ediv];have d:(u0*4294967296+u1) / v1<=u0*4294967296+u1:=Nat.div_le_self _ _;generalize (u0*4294967296+u1) / v1=qq at *;rw [aN (by omega)]
 ·rw [Int.tmod_eq_emod_of_nonneg (by omega),←Int.natCast_emod]
theorem GK.PZ (h:GK v1 v2 v' u0 u1 u2 t' B T Y)(hi:GI v1 (u0*4294967296+u1) T Y G ρ) :
  u64.wrap ((G:Int)*(v2:Int))=((G*v2:Nat):Int)/\bz .or .u64 (u64.wrap ((ρ:Int)*2^32)) (u64.wrap (u2:Int))=((ρ*4294967296+u2:Nat):Int) /\
  u64.wrap ((ρ:Int)+v1)=((ρ+v1:Nat):Int)/\(1<=G->u64.wrap ((G:Int)-1)=((G-1:Nat):Int)):=by
 have a:=h.Y3;have b:=hi.r;have c:=hi.g;have f:=h.WL;have d:=h.Y4;have e:((2:Int)^32)=4294967296:=by decide
 refine ⟨?_,?_,?_,?_⟩
 ·have d:G*v2<=4294967297*4294967295:=Nat.mul_le_mul c (by omega);rw [←Int.natCast_mul,aN (by omega)]
 ·rw [e,aN (x:=(ρ:Int)*4294967296) (by omega),aN (by omega),Dc _ _ b a];omega
 ·rw [aN (by omega)];omega
 ·intro h;rw [aN (by omega)];omega
end
end Go.Proofs.Tryz
namespace Go.Proofs.Tryz
open Go.Eng Go.Big
structure OI (X Y n n8:Nat) (j:Int) (us qs:List Nat):Prop where
 j0:-1<=j
 j1:j<(n+1-n8:Nat)
 ul:us.length=n+1
 ud:bV us
 ql:qs.length=n+1-n8
 qd:bV qs
 eq:X=val us+Y*(4294967296^(j+1).toNat*val (qs.drop (j+1).toNat))
 lt:val (us.drop (j+1).toNat)<Y
structure DK (Y n8 k v1 v2:Nat):Prop where
 Vp:n8=k+2
 len:(ai Y).length=n8
 g1:(ai Y)[k+1]?=some v1
 g2:(ai Y)[k]?=some v2
 l1:2147483648<=v1
 u1:v1<4294967296
 u2:v2<4294967296
 eq:Y=(v1*4294967296+v2)*4294967296^k+val ((ai Y).take k)
 lt:val ((ai Y).take k)<4294967296^k
 top:Y<4294967296^n8
theorem DK.of {Y n8:Nat}(hl:(ai Y).length=n8)(h2:2<=n8)(ht:2147483648*4294967296^(n8-1)<=Y):∃k v1 v2,DK Y n8 k v1 v2:=by
 obtain ⟨k,e⟩:∃k,n8=k+2:=⟨n8-2,by omega⟩;have a:=WH (us:=ai Y) (k:=k) (by omega);rw [af] at a;have c:=gj ((aA Y).take k);rw [List.length_take,Nat.min_eq_left (by omega)] at c;have f:=(aA Y).get (i:=k+1) (by omega);have g:=(aA Y).get (i:=k) (by omega)
 have b:2147483648<=(ai Y)[k+1]:=by
  rcases Nat.lt_or_ge (ai Y)[k+1] 2147483648 with d|d
  ·exfalso;have h:((ai Y)[k+1]*4294967296+(ai Y)[k])+1<=2147483648*4294967296:=by omega
   have j:=Nat.mul_le_mul_right (4294967296^k) h;rw [Nat.add_mul,Nat.one_mul] at j;have l:2147483648*4294967296^(k+1)=2147483648*4294967296*4294967296^k:=by rw [Nat.pow_succ];grind
   rw [show n8-1=k+1 from by omega,l] at ht;omega
  ·exact d
 exact ⟨k,_,_,e,hl,List.getElem?_eq_getElem _,List.getElem?_eq_getElem _,b,f,g,a,c,by rw [←hl,←aD];exact Nat.le_refl _⟩
theorem OI.start {x X Y n n8 s:Nat}(hX:X=x*2^s)(hx:(ai x).length=n)(hs:s<32)(Vp:2<=n8)(hn:n8<=n)(hY:2147483648*4294967296^(n8-1)<=Y)(hXl:(ai X).length<=n+1) :
  OI X Y n n8 (((n+1-n8:Nat):Int)-1) ((ai X++[0,0]).take (n+1)) (List.replicate (n+1-n8) 0):=by
 have h:n<=(ai X).length:=by rw [←hx,hX];exact aC (Nat.le_mul_of_pos_right _ (Nat.two_pow_pos s))
 have g:((ai X++[0,0]).take (n+1)).length=n+1:=by simp;omega
 have a:val ((ai X++[0,0]).take (n+1))=X:=by
  have b:val (ai X++[0,0])=X:=by rw [df,af];simp
  have c:=br (ai X++[0,0]) (n+1) (by simp;omega)
  have d:val ((ai X++[0,0]).drop (n+1))=0:=by
   refine hU ?_ (by simp;omega);rw [b];exact aD.1 (by omega)
  rw [d,Nat.mul_zero,Nat.add_zero,b] at c;exact c.symm
 have e:(((n+1-n8:Nat):Int)-1+1).toNat=n+1-n8:=by omega
 refine ⟨by omega,by omega,g,(bV.append.2 ⟨aA X,by simp [bV]⟩).take _,by simp,bV.rep _,?_,?_⟩
 ·rw [e,List.drop_of_length_le (by simp),eA,Nat.mul_zero,Nat.mul_zero,Nat.add_zero,a]
 ·rw [e];have b:=br ((ai X++[0,0]).take (n+1)) (n+1-n8) (by omega);rw [a] at b;have f:X<4294967296^n*2^s:=by rw [hX];exact Nat.mul_lt_mul_of_pos_right (by rw [←hx];exact aD.1 (Nat.le_refl _)) (Nat.two_pow_pos s)
  have i:2^s<=2^31:=Nat.pow_le_pow_right (by omega) (by omega)
  have c:4294967296^n*2^s<=4294967296^(n+1-n8)*Y:=by
   have b1:4294967296^n=4294967296^(n+1-n8)*4294967296^(n8-1):=by rw [←Nat.pow_add];congr 1;omega
   rw [b1,Nat.mul_assoc];refine Nat.mul_le_mul_left _ ?_;have b2:2^s*4294967296^(n8-1)<=2147483648*4294967296^(n8-1):=Nat.mul_le_mul_right _ (by omega);rw [Nat.mul_comm];omega
  have d:4294967296^(n+1-n8)*val (((ai X++[0,0]).take (n+1)).drop (n+1-n8))<4294967296^(n+1-n8)*Y:=by omega
  exact Nat.lt_of_mul_lt_mul_left d
theorem OI.body {X Y n n8 k v1 v2 j:Nat}{us qs:List Nat}(h:OI X Y n n8 (j:Int) us qs)(hd:DK Y n8 k v1 v2)(hjn:j+n8<=n) :
  val (us.drop (j+n8+1))=0/\∃u0 u1 u2 t',us[j+n8]?=some u0/\us[j+n8-1]?=some u1/\us[j+n8-2]?=some u2/\GK v1 v2 (val ((ai Y).take k)) u0 u1 u2 t' (4294967296^k) (val (us.drop j)) Y:=by
 obtain ⟨-,-,o,a,p,q,f,g⟩:=h;have b:((j:Int)+1).toNat=j+1:=by omega
 rw [b] at f g;have r:=hd.Vp;have c:=hd.top;have l:val (us.drop j)=us[j]+4294967296*val (us.drop (j+1)):=by rw [List.drop_eq_getElem_cons (by omega),bq]
 have m:=a.get (i:=j) (by omega)
 have d:val (us.drop (j+n8+1))=0:=by
  have:=hU (us:=us.drop (j+1)) (k:=n8) (by omega) (by simp;omega);rw [List.drop_drop] at this;rw [show j+n8+1=j+1+n8 from by omega];exact this
 have e:=gj ((a.drop j).take k);rw [List.length_take,List.length_drop,Nat.min_eq_left (by omega)] at e
 refine ⟨d,us[j+n8],us[j+n8-1],us[j+n8-2],val ((us.drop j).take k),List.getElem?_eq_getElem _,List.getElem?_eq_getElem _,List.getElem?_eq_getElem _,
  hd.eq,?_,hd.lt,e,hd.l1,hd.u1,hd.u2,a.get _,a.get _,a.get _,by omega⟩
 have:=WI (us:=us.drop j) (k:=k) (by simp;omega) (by rw [List.drop_drop,show j+(k+3)=j+n8+1 from by omega];exact d);simp only [List.getElem_drop] at this;rw [this];congr<;>omega
theorem OI.next {X Y n n8 j H:Nat}{us qs hs:List Nat}(h:OI X Y n n8 (j:Int) us qs)(hjn:j+n8<=n)(h1:hs.length=us.length)(hdh:bV hs)(h2:hs.take j=us.take j)(h3:val (hs.drop j)+H*Y=val (us.drop j))(h4:val (hs.drop j)<Y)(hH:H<4294967296) :
  OI X Y n n8 ((j:Int)-1) hs (qs.set j H):=by
 obtain ⟨-,f,k,m,g,i,b,o⟩:=h;have a:((j:Int)+1).toNat=j+1:=by omega
 have c:((j:Int)-1+1).toNat=j:=by omega
 rw [a] at b;refine ⟨by omega,by omega,by omega,hdh,by simpa using g,i.set _ _ hH,?_,by rw [c];exact h4⟩;have d:=br hs j (by omega);have e:=br us j (by omega);rw [h2] at d;rw [←h3] at e;rw [c,List.drop_eq_getElem_cons (l:=qs.set j H) (by simp;omega),List.getElem_set_self,List.drop_set_of_lt (by omega),bq,b,d,e,Nat.pow_succ];grind
theorem OI.done {x y X Y n n8 s:Nat}{us qs:List Nat}(h:OI X Y n n8 (-1) us qs)(hX:X=x*2^s)(hY:Y=y*2^s)(hn:n8<=n+1)(hYl:Y<4294967296^n8):val qs=x / y/\val (us.take n8) / 2^s=x%y:=by
 obtain ⟨-,-,f,g,i,j,a,b⟩:=h;have a:X=val us+Y*val qs:=by simpa using a
 have b:val us<Y:=by simpa using b
 have c:0<Y:=by omega
 have d:=hU (us:=us) (k:=n8) (by omega) (by omega)
 have e:val (us.take n8)=val us:=by
  have:=br us n8 (by omega);rw [d,Nat.mul_zero,Nat.add_zero] at this;exact this.symm
 constructor
 ·rw [←Nat.mul_div_mul_right x y (Nat.two_pow_pos s),←hX,←hY,a,Nat.add_mul_div_left _ _ c,Nat.div_eq_of_lt b,Nat.zero_add]
 ·have:x*2^s%(y*2^s)=val us:=by
   rw [←hX,←hY,a,Nat.add_mul_mod_self_left,Nat.mod_eq_of_lt b]
  rw [Nat.mul_mod_mul_right] at this;rw [e,←this,Nat.mul_div_cancel _ (Nat.two_pow_pos s)]
set_option maxHeartbeats 8000000 in
theorem EG {V:View}{p q:OA}{n c m e:Nat}{x y:Nat}(ha:RN V p n c x)(hb:RN V q m e y)(hn:n<=1099511627776)(hm2:2<=m)(hle:y<=x) :
  ae prog 233 #[.slice p n c,.slice q m e] V fun r V'=>∃p1 n1 c1 p2 n2 c2,r=.tuple #[.slice p1 n1 c1,.slice p2 n2 c2]/\RN V' p1 n1 c1 (x / y)/\RN V' p2 n2 c2 (x%y):=by
 have l:=ha.len;have a0:=hb.len;have b5:m<=n:=by rw [l,a0];exact aC hle
 refine DZ p n c q m e V _ ?_;simp (disch:=omega) only [aw];refine hb.rd (m-1) (by omega) (by omega) fun V1 l1=>(gx _ ((aA y).get (by omega))).mono ?_;rintro r V2 l2 rfl;refine ⟨_,rfl,?_⟩;obtain ⟨t,E⟩:∃t,t=(ai y)[m-1]'(by omega):=⟨_,rfl⟩;rw [←E];have b6:bG t<=32:=fR.2 (by rw [E];exact (aA y).get _);obtain ⟨s,hs⟩:∃s,s=32-bG t:=⟨_,rfl⟩;have es:(32-(bG t:Int))=(s:Int):=by omega
 obtain ⟨Mc,o,Vy⟩:=Dx a0.symm (by omega) E hs;rw [es,aN (by omega)];clear es b6;intro V3 l3;refine (zA (ha.le (l1.trans (l2.trans l3))) (by omega) s (by omega)).mono ?_;rintro r V4 l4 ⟨p4,n4,c4,rfl,h4,F⟩;rw [af] at h4 F
 have b7:x≠0:=by
  intro w;subst w;rw [zF] at l;simp at l;omega
 have F:c4=n+1:=by
  rcases F with w|w
  ·exact absurd w b7
  ·rw [w,←l,Nat.div_eq_of_lt Mc]
 have a3:=h4.len;have a4:x*2^s<4294967296^n*2^s:=Nat.mul_lt_mul_of_pos_right (by rw [l];exact aD.1 (Nat.le_refl _)) (Nat.two_pow_pos s);have Yp:2^s<=2^31:=Nat.pow_le_pow_right (by omega) (by omega)
 have YB:n<=n4/\n4<=n+1:=by
  constructor
  ·rw [a3,l];exact aC (Nat.le_mul_of_pos_right _ (Nat.two_pow_pos s))
  ·rw [a3,aD,Nat.pow_succ];have:4294967296^n*2^s<=4294967296^n*4294967296:=Nat.mul_le_mul_left _ (by omega);omega
 refine ⟨_,_,_,rfl,aB (ai (x*2^s)),h4.sl,by simp;omega,h4.cap,h4.JZ,by omega,by omega,rfl,by simp [Value.oneCell'],?_⟩;intro sp c7 d8 d9;refine ⟨⟨by omega,by omega⟩,fun V5 l5=>(zA (hb.le (l1.trans (l2.trans (l3.trans (l4.trans l5))))) (by omega) s (by omega)).mono ?_⟩;rintro r V6 l6 ⟨p8,f,c8,rfl,W,-⟩;rw [af] at W;have YA:=W.len;rw [o] at YA;subst YA;refine ⟨_,_,_,rfl,?_⟩;obtain ⟨k,v1,v2,I⟩:=DK.of o hm2 Vy;have hk:=I.Vp;have e4:=I.l1;have e1:=I.u1;have e2:=I.u2;have b8:=OI.start (Y:=y*2^s) rfl l.symm Mc hm2 b5 Vy (by omega);have w6:i64.wrap ((f:Int)-1)=(f:Int)-1:=aw (by omega);have w7:i64.wrap ((f:Int)-2)=(f:Int)-2:=aw (by omega);simp only [w6,w7];refine W.TA (k+1) (by omega) I.g1 (W.TA k (by omega) I.g2 ?_);have b9:((n:Int)+1).toNat=n+1:=by omega
 have c0:(((n+1:Nat):Int)-(f:Int)).toNat=n+1-f:=by omega
 have w1:i64.wrap ((n:Int)+1)=(n:Int)+1:=aw (by omega);have w2:u64.wrap (v1:Int)=v1:=aN (by omega);have w3:u64.wrap (v2:Int)=v2:=aN (by omega);have w4:i64.wrap (((n+1:Nat):Int)-(f:Int))=((n+1:Nat):Int)-(f:Int):=aw (by omega);have w5:i64.wrap (((n+1-f:Nat):Int)-1)=((n+1-f:Nat):Int)-1:=aw (by omega);simp only [b9,w2,w3,w4,c0,w5,cK];obtain ⟨B,a5⟩:∃B,B=aB ((ai (x*2^s)++[0,0]).drop (n+1))++sp:=⟨_,rfl⟩
 have M:aB (ai (x*2^s))++([.int .u32 0,.int .u32 0]:List Value)++sp=aB ((ai (x*2^s)++[0,0]).take (n+1))++B:=by
  rw [a5,←List.append_assoc,←sW,List.take_append_drop,sW];rfl
 rw [M];clear a5 M Vy a4 Yp F hs E;generalize hX:x*2^s=X at *;generalize hY:y*2^s=Y at *
 refine ⟨by omega,by omega,by omega,fun z V'=>∃us D:List Nat,z.2.1=aB us++B/\z.2.2=aB D/\OI X Y n f z.1 us D,fun z=>(z.1+1).toNat,
  ⟨(((n+1-f:Nat):Int)-1,aB ((ai X++[0,0]).take (n+1))++B,aB (List.replicate (n+1-f) 0)),?_,_,_,rfl,rfl,b8⟩,?_⟩
 ·(try dsimp only);and_intros<;>first|exact True.intro|rfl
 rintro ⟨j,row,e3⟩ V7 l7 ⟨us,D,rfl,rfl,A⟩;dsimp only at A ⊢;have e5:=A.j0;have e6:=A.j1;have Rk:=A.ul;have Pa:=A.ql;refine ⟨by trivial,fun K=>?_,fun K=>?_⟩
 ·have K:0<=j:=by simpa using K
  obtain ⟨j,rfl⟩:=Int.eq_ofNat_of_zero_le K;have P:j+f<=n:=by omega
  obtain ⟨hz,u0,u1,u2,t',a6,a7,a8,C⟩:=A.body I P;obtain ⟨eb,XQ,XR⟩:=C.words;have w8:i64.wrap ((j:Int)+f)=((j+f:Nat):Int):=by rw [aw (by omega)];omega
  have w9:i64.wrap (((j+f:Nat):Int)-1)=((j+f-1:Nat):Int):=by rw [aw (by omega)];omega
  have WN:i64.wrap (((j+f:Nat):Int)-2)=((j+f-2:Nat):Int):=by rw [aw (by omega)];omega
  have Yz:i64.wrap ((j:Int)-1)=(j:Int)-1:=aw (by omega);simp only [w8,w9,WN,Yz,Int.toNat_natCast];refine ⟨⟨by omega,by omega⟩,_,jg a6,by omega,⟨by omega,by omega⟩,_,jg a7,by omega,by omega,?_⟩;rw [eb,XQ,XR];clear eb XQ XR
  refine ⟨fun g V'=>∃G:Nat,g=(G:Int)/\GF (val (us.drop j)) Y G,
   ⟨fun z V'=>∃G ρ:Nat,z=((G:Int),(ρ:Int))/\GI v1 (u0*4294967296+u1) (val (us.drop j)) Y G ρ,fun z=>z.1.toNat,
    ⟨((((u0*4294967296+u1) / v1:Nat):Int),(((u0*4294967296+u1)%v1:Nat):Int)),by (try dsimp only);and_intros<;>first|exact True.intro|rfl,_,_,rfl,C.start⟩,?_⟩,?_⟩
  ·rintro _ V8 l8 ⟨G,ρ,rfl,N⟩;obtain ⟨Jt,Q,c3,TJ⟩:=C.PZ N;dsimp only
   have t1:∀a:Nat,((((a / 2^32:Nat):Int) != 0)=true↔4294967296<=a)/\((((a / 2^32:Nat):Int) != 0)=false↔a<4294967296):=by
    intro a;constructor
    ·rw [bne_iff_ne];omega
    ·rw [bne_eq_false_iff_eq];omega
   simp only [c3,fV,(t1 _).1,(t1 _).2];refine ⟨by trivial,by omega,fun h=>⟨by omega,fun R=>?_,fun R=>?_⟩,fun h=>⟨by omega,⟨by omega,by omega⟩,_,jg a8,fun E=>⟨by omega,fun R=>?_,fun R=>?_⟩,fun E=>?_⟩⟩
   ·obtain ⟨g1,g2⟩:=C.Ns N (C.Nr h) R;exact ⟨((G-1:Nat):Int),by rw [TJ g1];(try dsimp only);and_intros<;>first|exact True.intro|rfl,G-1,rfl,g2⟩
   ·obtain ⟨g1,g2⟩:=C.Nt N (C.Nr h) R;exact ⟨(((G-1:Nat):Int),((ρ+v1:Nat):Int)),by (try dsimp only);omega,by rw [TJ g1];(try dsimp only);and_intros<;>first|exact True.intro|rfl,G-1,ρ+v1,rfl,g2⟩
   ·have Z:=C.dec N (by rw [Jt,Q,decide_eq_true_eq] at E;omega);obtain ⟨g1,g2⟩:=C.Ns N Z R;exact ⟨((G-1:Nat):Int),by rw [TJ g1];(try dsimp only);and_intros<;>first|exact True.intro|rfl,G-1,rfl,g2⟩
   ·have Z:=C.dec N (by rw [Jt,Q,decide_eq_true_eq] at E;omega);obtain ⟨g1,g2⟩:=C.Nt N Z R;exact ⟨(((G-1:Nat):Int),((ρ+v1:Nat):Int)),by (try dsimp only);omega,by rw [TJ g1];(try dsimp only);and_intros<;>first|exact True.intro|rfl,G-1,ρ+v1,rfl,g2⟩
   ·have Z:G*v2<=ρ*4294967296+u2:=by rw [Jt,Q,decide_eq_false_iff_not] at E;omega
    exact ⟨(G:Int),by (try dsimp only);and_intros<;>first|exact True.intro|rfl,G,rfl,C.last N h Z⟩
  ·rintro _ V9 l9 ⟨G,rfl,S⟩;have Qc:=S.g;clear C a6 a7 a8;have o:=I.len;have a9:=af Y
   refine ⟨by trivial,fun z V'=>∃(b c i:Nat)(fs:List Nat),z=((b:Int),(c:Int),(i:Int),aB fs++B)/\B8 us (ai Y) j G i b c fs,fun z=>f-z.2.2.1.toNat,
     ⟨(0,0,0,aB us++B),by (try dsimp only);and_intros<;>first|exact True.intro|rfl,0,0,0,us,rfl,by omega,by omega,by omega,rfl,A.ud,rfl,rfl,by simp⟩,?_⟩
   rintro _ gu L ⟨b,c,i,fs,rfl,hS⟩;dsimp only;simp only [Int.toNat_natCast];have hi:=hS.hi;have e7:=hS.len;refine ⟨by trivial,fun h=>?_,fun h=>?_⟩
   ·have h:i<f:=by simpa using h
    obtain ⟨u,d,ob,T,cn,cb,q1,q2,q3,q4,q5,O,q7,c5⟩:=hS.step Qc (aA Y) A.ud (by omega) (by omega);refine (W.le (l7.trans (l9.trans L))).TA i rfl q1 ?_;have c6:i64.wrap ((j:Int)+i)=((j+i:Nat):Int):=by rw [aw (by omega)];omega
    have c9:i64.wrap ((i:Int)+1)=((i+1:Nat):Int):=by rw [aw (by omega)];omega
    rw [q3,c6,c9,Int.toNat_natCast];refine ⟨⟨by omega,by omega⟩,_,jg q2,⟨by omega,by omega⟩,by simp;omega,by omega,by omega,?_⟩;rw [q4,q5,O];refine ⟨((ob:Int),(cb:Int),((i+1:Nat):Int),aB (fs.set (j+i) T)++B),by (try dsimp only);omega,?_,_,_,_,_,rfl,c5⟩
    (try dsimp only);and_intros<;>first|exact True.intro|rfl|exact ux (by omega)
   ·have h:i=(ai Y).length:=by simp at h;omega
    subst h;obtain ⟨u,ob,T,q1,q2,q3,q4,q5,O,q7,q8,q9,Mx⟩:=hS.fin A.ud (by omega) (by rw [o];exact hz);rw [o] at q1 O q7 q8 q9 Mx;rw [a9] at Mx;refine ⟨⟨by omega,by omega⟩,_,jg q1,⟨by omega,by omega⟩,by simp;omega,⟨by omega,by omega⟩,by simp;omega,by omega,?_⟩;rw [q2,q3,ux (by omega),qB (x:=(G:Int)) (by omega)];generalize fs.set (j+f) T=ks at *;have Rf:∀H:Nat,(aB D).set (0+j*1) (.int .u32 (H:Int))=aB (D.set j H):=by intro H;rw [Nat.zero_add,Nat.mul_one,bD]
    rw [Rf];refine ⟨fun U=>?_,fun U=>?_⟩
    ·have U:ob=0:=by simpa using U
     rw [U,Nat.mul_zero,Nat.add_zero] at Mx;have b0:=S.lt;rw [Nat.add_mul,Nat.one_mul] at b0;refine ⟨((j:Int)-1,aB ks++B,aB (D.set j G)),by (try dsimp only);omega,by (try dsimp only);and_intros<;>first|exact True.intro|rfl,ks,D.set j G,rfl,rfl,?_⟩;exact A.next P q7 O q8 Mx (by omega) Qc
    ·have U:ob=1:=by
      have:ob≠0:=by simpa using U
      omega
     rw [U,Nat.mul_one] at Mx
     have Ra:∀ls:List Nat,ls.length=n+1->bV ls->val (ls.drop (j+f+1))=0->val (ls.drop j)<4294967296^(f+1):=by
      intro ls Z h2 K;have a1:=br (ls.drop j) (f+1) (by simp;omega);rw [List.drop_drop,show j+(f+1)=j+f+1 from by omega,K,Nat.mul_zero,Nat.add_zero] at a1;have a2:=gj ((h2.drop j).take (f+1));rw [List.length_take,List.length_drop,Nat.min_eq_left (by omega)] at a2;omega
     have e8:=Ra ks (by omega) O q9
     have d0:1<=G:=by
      rcases Nat.eq_zero_or_pos G with w|w
      ·subst w;omega
      ·exact w
     have e9:G*Y=(G-1)*Y+Y:=by conv=>lhs;rw [←Nat.sub_add_cancel d0,Nat.add_mul,Nat.one_mul]
     have f0:=S.gt;have Vz:u32.wrap ((G:Int)-1)=((G-1:Nat):Int):=by rw [qB (by omega)];omega
     refine ⟨⟨by omega,by omega⟩,(G:Int),by rw [Nat.zero_add,Nat.mul_one,gg (by simp;omega),List.getElem_set_self],⟨by omega,by omega⟩,by simp;omega,?_⟩;have Pb:(aB (D.set j G)).set (0+j*1) (.int .u32 ((G-1:Nat):Int))=aB (D.set j (G-1)):=by rw [Nat.zero_add,Nat.mul_one,bD,List.set_set]
     rw [Vz,Pb]
     refine ⟨fun z V'=>∃(c' i2:Nat)(gs:List Nat),z=((c':Int),(i2:Int),aB gs++B)/\B5 ks (ai Y) j i2 c' gs,fun z=>f-z.2.1.toNat,
      ⟨(0,0,aB ks++B),by (try dsimp only);and_intros<;>first|exact True.intro|rfl,0,0,ks,rfl,by omega,by omega,rfl,O,rfl,rfl,by simp⟩,?_⟩
     rintro _ fg bF ⟨c',i2,gs,rfl,hA⟩;dsimp only;simp only [Int.toNat_natCast];have f1:=hA.hi;have f2:=hA.len;refine ⟨by trivial,fun h=>?_,fun h=>?_⟩
     ·have h:i2<f:=by simpa using h
      obtain ⟨u,d,T,cn,cb,r1,r2,r3,r4,r5,d1⟩:=hA.step (aA Y) O (by omega) (by omega);refine (W.le (l7.trans (l9.trans (L.trans bF)))).TA i2 rfl r1 ?_;have d2:i64.wrap ((j:Int)+i2)=((j+i2:Nat):Int):=by rw [aw (by omega)];omega
      have d3:i64.wrap ((i2:Int)+1)=((i2+1:Nat):Int):=by rw [aw (by omega)];omega
      rw [d2,d3,Int.toNat_natCast];refine ⟨⟨by omega,by omega⟩,_,jg r2,⟨by omega,by omega⟩,by simp;omega,by omega,?_⟩;rw [r3,r4,r5];refine ⟨((cb:Int),((i2+1:Nat):Int),aB (gs.set (j+i2) T)++B),by (try dsimp only);omega,?_,_,_,_,rfl,d1⟩
      (try dsimp only);and_intros<;>first|exact True.intro|rfl|exact ux (by omega)
     ·have h:i2=(ai Y).length:=by simp at h;omega
      subst h;obtain ⟨u,T,kp,r1,r2,r3,r4,r5,r6,r7,r8⟩:=hA.fin O (by omega) (by rw [o];exact q9);rw [o] at r1 r4 r5 r6 r7 r8;rw [a9] at r8;refine ⟨⟨by omega,by omega⟩,_,jg r1,⟨by omega,by omega⟩,by simp;omega,?_⟩;rw [r2,ux (by omega)];have f3:=Ra _ (by omega) r4 r7;generalize gs.set (j+f) T=hs at *
      have Vl:kp=1:=by
       rcases Nat.eq_zero_or_pos kp with w|w
       ·rw [w,Nat.mul_zero] at r8;omega
       ·omega
      rw [Vl,Nat.mul_one] at r8;refine ⟨((j:Int)-1,aB hs++B,aB (D.set j (G-1))),by (try dsimp only);omega,by (try dsimp only);and_intros<;>first|exact True.intro|rfl,hs,D.set j (G-1),rfl,rfl,?_⟩;exact A.next P (by omega) r4 (by rw [r6,q8]) (by omega) (by omega) (by omega)
 ·have K:j=-1:=by simp at K;omega
  subst K;obtain ⟨hq,hr⟩:=A.done hX.symm hY.symm (by omega) I.top;have Qe:=A.qd;have HH:=A.ud;intro V8 l8 f4 d4 d5 d6 J
  have d7:RD V8 (some ⟨d4,0,none⟩) f c7 (us.take f):=by
   refine ⟨by simp;omega,by omega,fun i v hv=>⟨_,rfl,?_⟩,HH.take f,fun w=>nomatch w⟩;rw [add_zero'];refine fS d6 ?_;rw [Ap,List.getElem?_take] at hv;split at hv
   ·rename_i b0;rw [List.getElem?_append_left (by simp;omega)];exact hv
   ·cases hv
  refine ⟨⟨by omega,by omega⟩,fun V9 l9=>?_⟩;refine (aW (RD.bw (ds:=D) d5 Qe (n:=n+1-f) (c:=n+1-f) (by omega) (Nat.le_refl _) |>.le l9) (by omega)).mono ?_;rintro r gu L ⟨k1,rfl,g1⟩;refine ⟨_,_,_,rfl,fun fg bF=>?_⟩;rw [Int.toNat_natCast];refine (Hm (d7.le (l9.trans (L.trans bF))) (by simp;omega) s (by omega)).mono ?_;rintro r ib cu ⟨p2,n2,c2,rfl,g2⟩;refine ⟨_,_,_,rfl,fun lG ck=>⟨_,_,_,_,_,_,rfl,?_,?_⟩⟩
  ·rw [aR Qe] at g1;unfold RN;rw [←hq];exact g1.le (bF.trans (cu.trans ck))
  ·rw [hr] at g2;exact g2.le ck
theorem kR {V:View}{p q:OA}{n c m e:Nat}{xa xb:List Nat}(ha:RD V p n c xa)(hb:RD V q m e xb)(hm:xa.length<=1099511627776)(hn:xb.length<=1099511627776)(h0:val xb≠0) :
  ae prog 191 #[.slice p n c,.slice q m e] V fun r V'=>∃p1 n1 c1 p2 n2 c2,r=.tuple #[.slice p1 n1 c1,.slice p2 n2 c2,.bool true]/\RN V' p1 n1 c1 (val xa / val xb)/\RN V' p2 n2 c2 (val xa%val xb):=by
 have la:=bo ha.fk;have lb:=bo hb.fk;refine yF p n c q m e V _ fun Q t=>(aW (ha.le t) (by omega)).mono ?_;rintro r V2 J ⟨n,rfl,b⟩;rw [aR ha.fk] at b;refine ⟨_,_,_,rfl,fun R u=>(aW (hb.le (t.trans (J.trans u))) (by omega)).mono ?_⟩;rintro r S K ⟨m,rfl,f⟩;rw [aR hb.fk] at f
 replace b:=b.le (u.trans K)
 generalize val xa=x at *;generalize val xb=y at *;have L:=b.len;have T:=f.len;refine ⟨_,_,_,rfl,fun v=>?_,fun v U k=>(zz (b.le k) (f.le k) (by omega) (by omega)).mono ?_⟩
 ·exfalso;have:ai y=[]:=List.length_eq_zero_iff.1 (by simp at v;omega);exact h0 (bH.1 this)
 rintro r W w rfl;rw [af,af]
 replace b:=b.le (k.trans w)
 replace f:=f.le (k.trans w)
 refine ⟨_,rfl,fun d z g=>(me (b.le g) (by omega)).mono ?_,fun d=>⟨fun j=>?_,fun j z g=>?_⟩⟩
 ·rintro r A B ⟨C,D,E,rfl,h⟩;have d:x<y:=by simpa [fU] using d
  refine ⟨_,_,_,rfl,fun F a=>⟨_,_,_,_,_,_,rfl,?_,?_⟩⟩
  ·rw [Nat.div_eq_of_lt d];exact RD.nil
  ·rw [Nat.mod_eq_of_lt d];exact h.le a
 ·have j:m=1:=by simp at j;omega
  subst j;refine f.rd0 0 rfl (by omega) fun z g=>?_;have G:=(aA y).get (i:=0) (by omega)
  have l:y=(ai y)[0]'(by omega):=by
   have e:=gJ (ai y) 0 (by omega);rw [af,List.drop_of_length_le (by omega)] at e;simpa using e
  rw [←l] at G ⊢;refine (Cm (b.le g) (by omega) y h0 G).mono ?_;rintro r A B ⟨C,D,E,rfl,h⟩;rw [af] at h ⊢;have H:x%y<y:=Nat.mod_lt _ (by omega);refine ⟨_,_,_,_,rfl,fun F a=>?_⟩;rw [aN (by omega)];refine (dJ _ (by omega) (by omega)).mono ?_;rintro r X M ⟨N,O,P,rfl,o⟩;exact ⟨_,_,_,rfl,fun Y I=>⟨_,_,_,_,_,_,rfl,h.le (a.trans (M.trans I)),o.le I⟩⟩
 ·have d:y<=x:=by simpa [←Int.not_lt,fU] using d
  have s:2<=m:=by
   have:¬(m:Int)=1:=by simpa using j
   have:ai y≠[]:=fun e=>h0 (bH.1 e);have:(ai y).length≠0:=fun e=>this (List.length_eq_zero_iff.1 e);omega
  refine (EG (b.le g) (f.le g) (by omega) s d).mono ?_;rintro r A B ⟨C,D,E,N,O,P,rfl,h,o⟩;exact ⟨_,_,_,_,_,_,rfl,fun F a=>⟨_,_,_,_,_,_,rfl,h.le a,o.le a⟩⟩
theorem vy (x y:Nat):Nat.gcd y (x%y)=Nat.gcd x y:=by
 rw [Nat.gcd_comm x y,Nat.gcd_rec y x,Nat.gcd_comm]
theorem qY {V:View}{p q:OA}{n c m e:Nat}{xa xb:List Nat}(ha:RD V p n c xa)(hb:RD V q m e xb)(hm:xa.length<=1099511627776)(hn:xb.length<=1099511627776) :
  ae prog 152 #[.slice p n c,.slice q m e] V fun r V'=>∃p1 n1 c1,r=.slice p1 n1 c1/\RN V' p1 n1 c1 (Nat.gcd (val xa) (val xb)):=by
 have la:=bo ha.fk;have lb:=bo hb.fk;refine FP p n c q m e V _ fun V1 R=>(iQ (ha.le R) hm).mono ?_;rintro r V2 Y ⟨p1,n1,c1,rfl,f⟩;refine ⟨_,_,_,rfl,fun V3 S=>(iQ (hb.le (R.trans (Y.trans S))) hn).mono ?_⟩;rintro r V4 Z ⟨q1,m1,e1,rfl,i⟩
 replace f:=f.le (S.trans Z)
 refine ⟨_,_,_,rfl,fun z k V'=>∃x y:Nat,RN V' z.1 z.2.1 z.2.2.1 x/\RN V' z.2.2.2.1 z.2.2.2.2.1 z.2.2.2.2.2 y/\Nat.gcd x y=Nat.gcd (val xa) (val xb)/\k=y/\(ai x).length<=1099511627776/\(ai y).length<=1099511627776,
  ⟨(p1,n1,c1,q1,m1,e1),val xb,by (try dsimp only);and_intros<;>trivial,val xa,val xb,f,i,rfl,rfl,by omega,by omega⟩,?_⟩
 rintro ⟨p,n,c,q,m,e⟩ k V5 l5 ⟨x,y,f,i,w,hk,I,g⟩;dsimp only at f i ⊢;have a0:=f.len;have T:=i.len;rw [←w];have stop:m=0->y=0:=fun h=>bH.1 (List.length_eq_zero_iff.1 (by omega))
 have more:∀j:View,V5.Le j->m≠0->ae prog 191 #[.slice p n c,.slice q m e] j fun r A=>∃p1 n1 c1 p2 n2 c2,r=.tuple #[.slice p1 n1 c1,.slice p2 n2 c2,.bool true]/\RN A p2 n2 c2 (x%y)/\x%y<y/\Nat.gcd y (x%y)=Nat.gcd (val xa) (val xb)/\(ai (x%y)).length<=1099511627776/\j.Le A:=by
  intro j l h
  have J:y≠0:=by
   intro e0;subst e0;rw [zF] at T;simp at T;omega
  have d:x%y<y:=Nat.mod_lt _ (by omega);refine (kR (f.le l) (i.le l) I g (by rw [af];exact J)).mono ?_;rintro r A K ⟨L,M,N,F,G,H,rfl,U,u⟩;rw [af,af] at u;exact ⟨_,_,_,_,_,_,rfl,u,d,by rw [vy,w],Nat.le_trans (aC (by omega)) g,K⟩
 refine ⟨by trivial,fun W=>⟨fun o V6 O=>?_,fun o j l=>(more j l ?_).mono ?_⟩,fun W=>⟨fun B=>⟨fun o V6 O=>?_,fun o j l=>(more j l ?_).mono ?_⟩,fun B ib X=>?_⟩⟩
 ·rw [stop (by simp at o;omega),Nat.gcd_zero_right];rw [stop (by simp at o;omega)] at w;exact ⟨_,_,_,rfl,f.le O⟩
 ·simp at o;omega
 ·rintro r A K ⟨L,M,N,F,G,H,rfl,u,d,s,t,P⟩;exact ⟨_,_,_,_,_,_,_,rfl,(q,m,e,F,G,H),x%y,(by omega),by (try dsimp only);and_intros<;>trivial,y,x%y,i.le (l.trans P),u,s.trans w.symm,rfl,g,t⟩
 ·rw [stop (by simp at o;omega),Nat.gcd_zero_right];exact ⟨_,_,_,rfl,f.le O⟩
 ·simp at o;omega
 ·rintro r A K ⟨L,M,N,F,G,H,rfl,u,d,s,t,P⟩;exact ⟨_,_,_,_,_,_,_,rfl,(q,m,e,F,G,H),x%y,(by omega),by (try dsimp only);and_intros<;>trivial,y,x%y,i.le (l.trans P),u,s.trans w.symm,rfl,g,t⟩
 ·have a1:n<=2:=by simp at W;omega
  have a2:m<=2:=by simp at B;omega
  have C:x<18446744073709551616:=(aD (k:=2)).1 (by omega);have D:y<18446744073709551616:=(aD (k:=2)).1 (by omega);refine (kS (f.le X) (by omega)).mono ?_;rintro r lG ck rfl;rw [af,if_pos C];refine ⟨_,_,rfl,fun j8 dF=>(kS (i.le (X.trans (ck.trans dF))) (by omega)).mono ?_⟩;rintro r kK dw rfl;rw [af,if_pos D]
  refine ⟨_,_,rfl,fun z V'=>∃a b:Nat,z=((a:Int),(b:Int))/\Nat.gcd a b=Nat.gcd x y/\a<18446744073709551616/\b<18446744073709551616,fun z=>z.2.toNat,
   ⟨((x:Int),(y:Int)),by (try dsimp only);and_intros<;>trivial,x,y,rfl,rfl,C,D⟩,?_⟩
  rintro _ mS dh ⟨a,b,rfl,Q,a3,E⟩;dsimp only;refine ⟨by trivial,fun v=>?_,fun v pk cZ=>?_⟩
  ·have v:b≠0:=by rw [bne_iff_ne] at v;omega
   have d:a%b<b:=Nat.mod_lt _ (by omega);have e4:(a:Int).tmod (b:Int)=((a%b:Nat):Int):=by rw [Int.tmod_eq_emod_of_nonneg (by omega),←Int.natCast_emod]
   rw [e4];exact ⟨by omega,((b:Int),((a%b:Nat):Int)),by (try dsimp only);rw [Int.toNat_natCast,Int.toNat_natCast];exact d,by (try dsimp only);and_intros<;>trivial,b,a%b,rfl,by rw [vy,Q],E,Nat.lt_trans d E⟩
  ·have v:b=0:=by rw [bne_eq_false_iff_eq] at v;omega
   subst v;rw [Nat.gcd_zero_right] at Q;refine (dJ _ (by omega) (by omega)).mono ?_;rintro r uC d_ ⟨L,M,N,rfl,U⟩;refine ⟨_,_,_,rfl,fun uD fw=>⟨_,_,_,rfl,?_⟩⟩;rw [←Q];exact U.le fw
end Go.Proofs.Tryz
namespace Go.Big
def aZ (b:Bool)(ds:List Nat):Int:=if b then -(val ds:Int) else val ds
end Go.Big
namespace Go.Eng
open Go.Big
def RI (V:View)(v:Value)(z:Int):Prop:=∃p n c,v=.agg #[.bool (decide (z<0)),.slice p n c]/\RD V p n c (ai z.natAbs)
theorem RI.le {V V':View}{v:Value}{z:Int}(h:RI V v z)(l:V.Le V'):RI V' v z:=by
 obtain ⟨p,n,c,e,h⟩:=h;exact ⟨p,n,c,e,h.le l⟩
theorem RI.mk {V:View}{b:Bool}{p:OA}{n c:Nat}{z:Int}(hb:b=decide (z<0))(h:RD V p n c (ai z.natAbs)):RI V (.agg #[.bool b,.slice p n c]) z:=⟨p,n,c,by rw [hb],h⟩
theorem RI.zero {V:View}:RI V (.agg #[.bool false,.slice none 0 0]) 0:=⟨_,_,_,rfl,RD.nil⟩
end Go.Eng
namespace Go.Proofs.Tryz
open Go.Eng Go.Big
theorem ka {n:Nat}:bG n=0↔n=0:=by
 unfold bG;split<;>simp_all
theorem fJ (b:Bool)(ds:List Nat):(aZ b ds).natAbs=val ds:=by unfold aZ;cases b<;>simp
theorem CV (b:Bool)(ds:List Nat):aZ b ds<0↔b=true/\val ds≠0:=by
 unfold aZ;cases b
 ·simp
 ·simp;omega
theorem aE (z:Int):aZ (decide (z<0)) (ai z.natAbs)=z:=by
 unfold aZ;rw [af];by_cases h:z<0
 ·rw [decide_eq_true h,if_pos rfl];omega
 ·rw [decide_eq_false h,if_neg (by decide)];omega
theorem Jw (b:Bool)(ds:List Nat):aZ (!b) ds=-aZ b ds:=by unfold aZ;cases b<;>simp
theorem oJ (ds:List Nat):aZ false ds=val ds:=rfl
theorem fW {x n:Nat}(h:n=(ai x).length):0<n↔x≠0:=by
 rw [h];constructor
 ·intro a b;subst b;simp at a
 ·intro a;rcases Nat.eq_zero_or_pos (ai x).length with e|e
  ·exact absurd (bH.1 (List.length_eq_zero_iff.1 e)) a
  ·exact e
theorem kd {V:View}(b:Bool){p:OA}{n c x:Nat}(h:RN V p n c x) :
  ae prog 249 #[.bool b,.slice p n c] V fun r V'=>RI V' r (if b then -(x:Int) else x):=by
 have f:=fW h.len;refine qJ b p n c V _ ⟨fun a e d=>?_,fun a e d=>?_⟩
 ·rw [if_pos a];refine RI.mk ?_ ?_
  ·rw [Bool.eq_iff_iff,decide_eq_true_eq,decide_eq_true_eq];omega
  ·rw [Int.natAbs_neg,Int.natAbs_natCast];exact h.le d
 ·rw [a,if_neg (by decide)];refine RI.mk ?_ ?_
  ·symm;rw [decide_eq_false_iff_not];omega
  ·rw [Int.natAbs_natCast];exact h.le d
theorem iP {V:View}(b:Bool){p:OA}{n c:Nat}{ds:List Nat}(h:RD V p n c ds)(hm:ds.length<=1099511627776) :
  ae prog 194 #[.agg #[.bool b,.slice p n c]] V fun r V'=>RI V' r (aZ b ds):=by
 refine tU b p n c V _ fun j g=>(iQ (h.le g) hm).mono ?_;rintro r V2 k ⟨l,m,o,rfl,a⟩;have q:=fW a.len;have f:=CV b ds;refine ⟨_,_,_,rfl,fun d i e=>RI.mk ?_ ?_,fun d i e=>RI.mk ?_ ?_⟩
 ·rw [Bool.eq_iff_iff,decide_eq_true_eq,decide_eq_true_eq,f];simp [d];omega
 ·rw [fJ];exact a.le e
 ·symm;rw [decide_eq_false_iff_not,f];simp [d]
 ·rw [fJ];exact a.le e
def lO (b:Bool)(ds:List Nat):Bool:=decide (ai (val ds)=ds)&&(!b||decide (ds≠[]))
theorem dV {V:View}(b:Bool){p:OA}{n c:Nat}{ds:List Nat}(h:RD V p n c ds)(hm:ds.length<=1099511627776) :
  ae prog 86 #[.agg #[.bool b,.slice p n c]] V fun r V'=>r=.bool (lO b ds):=by
 refine qI b p n c V _ fun m j=>(pH (h.le j) hm).mono ?_;rintro r V2 o rfl;refine ⟨_,rfl,fun d=>⟨fun a f g=>?_,fun a f g=>?_⟩,fun d f g=>?_⟩
 ·simp [lO,d];simp at a;simp [a]
 ·have k:=h.len;simp [lO,d];simp at a;simp [a];rw [Bool.eq_iff_iff,decide_eq_true_eq];simp;constructor
  ·intro i l;subst l;simp at k;omega
  ·intro i;rcases Nat.eq_zero_or_pos ds.length with e|e
   ·exact absurd (List.length_eq_zero_iff.1 e) i
   ·omega
 ·simp [lO,d]
theorem jt {V:View}(n:Int)(h0:-9223372036854775808<=n)(h1:n<=9223372036854775807) :
  ae prog 154 #[.int .i64 n] V fun r V'=>RI V' r n:=by
 refine oW n V _ ⟨fun a d f=>?_,fun a d f=>?_⟩
 ·have a:n<0:=by simpa using a
  have e:u64.wrap (0-u64.wrap n)=-n:=by rw [rR,rR];omega
  rw [e];refine (dJ _ (by omega) (by omega)).mono ?_;rintro r V2 g ⟨h,i,j,rfl,b⟩;refine ⟨_,_,_,rfl,fun k c=>⟨_,_,_,rfl,?_⟩⟩;rw [show n.natAbs=(-n).toNat from by omega];exact b.le c
 ·have a:0<=n:=by simpa using a
  rw [aN (by omega)];refine (dJ _ (by omega) (by omega)).mono ?_;rintro r V2 g ⟨h,i,j,rfl,b⟩;refine ⟨_,_,_,rfl,fun k c=>⟨_,_,_,rfl,?_⟩⟩;rw [show n.natAbs=n.toNat from by omega];exact b.le c
theorem lY {V:View}(b:Bool){p:OA}{n c:Nat}{ds:List Nat}(h:RD V p n c ds)(hm:ds.length<=1099511627776) :
  ae prog 190 #[.agg #[.bool b,.slice p n c]] V fun r V'=>r=.int .i64 (aZ b ds).sign:=by
 refine tV b p n c V _ fun l k=>(gD (h.le k) hm).mono ?_;rintro r V2 m rfl;have f:(aZ b ds)=0↔val ds=0:=by rw [←fJ b ds];omega
 have g:=CV b ds;refine ⟨_,rfl,fun a i j=>?_,fun a=>⟨fun d i j=>?_,fun d i j=>?_⟩⟩
 ·have:val ds=0:=ka.1 (by simp at a;omega);rw [f.2 this];rfl
 ·have:val ds≠0:=fun e=>by simp [ka.2 e] at a
  rw [Int.sign_eq_neg_one_of_neg (g.2 ⟨d,this⟩)]
 ·have:val ds≠0:=fun e=>by simp [ka.2 e] at a
  have:0<aZ b ds:=by
   have:=f;have:¬aZ b ds<0:=by rw [g];simp [d]
   omega
  rw [Int.sign_eq_one_of_pos this]
theorem xO {V:View}(b:Bool){p:OA}{n c:Nat}{ds:List Nat}(h:RD V p n c ds)(hm:ds.length<=1099511627776) :
  ae prog 204 #[.agg #[.bool b,.slice p n c]] V fun r V'=>RI V' r (-aZ b ds):=by
 refine wU b p n c V _ fun f d=>(iP (!b) (h.le d) hm).mono ?_;rintro r V2 g ⟨i,j,k,rfl,a⟩;rw [Jw] at a ⊢;exact ⟨_,_,_,_,rfl,fun l e=>⟨_,_,_,rfl,a.le e⟩⟩
theorem gM {V:View}(b1 b2:Bool){p q:OA}{n c m e:Nat}{xa xb:List Nat}(ha:RD V p n c xa)(hb:RD V q m e xb)(hm:xa.length+xb.length<=1099511627776) :
  ae prog 236 #[.agg #[.bool b1,.slice p n c],.agg #[.bool b2,.slice q m e]] V fun r V'=>RI V' r (aZ b1 xa*aZ b2 xb):=by
 refine wT b1 p n c b2 q m e V _ fun i a=>(gE (ha.le a) (hb.le a) hm).mono ?_;rintro r V2 j ⟨k,l,o,rfl,d⟩;refine ⟨_,_,_,rfl,fun s f=>(kd _ (d.le f)).mono ?_⟩;rintro r t u ⟨v,w,x,rfl,b⟩
 have g:(if (!(b1==b2))=true then -((val xa*val xb:Nat):Int) else ((val xa*val xb:Nat):Int))=aZ b1 xa*aZ b2 xb:=by
  unfold aZ;cases b1<;>cases b2<;>simp [Int.neg_mul,Int.mul_neg]
 rw [g] at b ⊢;exact ⟨_,_,_,_,rfl,fun y h=>⟨_,_,_,rfl,b.le h⟩⟩
theorem xN {V:View}(b1 b2:Bool){p q:OA}{n c m e:Nat}{xa xb:List Nat}(ha:RD V p n c xa)(hb:RD V q m e xb)(hm:xa.length<=1099511627776)(hn:xb.length<=1099511627776) :
  ae prog 237 #[.agg #[.bool b1,.slice p n c],.agg #[.bool b2,.slice q m e]] V fun r V'=>RI V' r (aZ b1 xa+aZ b2 xb):=by
 have fin:∀{b:Bool} {x:Nat} {i:View} {j:OA} {k l:Nat},RN i j k l x->(if b then -(x:Int) else x)=aZ b1 xa+aZ b2 xb ->
   ae prog 249 #[.bool b,.slice j k l] i fun r V'=>∃(IK:Bool)(Kb:OA)(JT IX:Nat),r=.agg #[.bool IK,.slice Kb JT IX]/\∀o:View,V'.Le o->RI o (.agg #[.bool IK,.slice Kb JT IX]) (aZ b1 xa+aZ b2 xb):=by
  intro b x i j k l h he;refine (kd b h).mono ?_;rintro r v w ⟨y,z,A,rfl,a⟩;rw [he] at a ⊢;exact ⟨_,_,_,_,rfl,fun B s=>⟨_,_,_,rfl,a.le s⟩⟩
 refine wS b1 p n c b2 q m e V _ ⟨fun f i d=>(Hl (ha.le d) (hb.le d) hm hn).mono ?_,fun f i d=>(zB (ha.le d) (hb.le d) hm hn).mono ?_⟩
 ·rintro r V2 t ⟨j,k,l,rfl,u⟩;have f:b1=b2:=by simpa using f
  subst f;exact ⟨_,_,_,rfl,fun o g=>fin (u.le g) (by unfold aZ;cases b1<;>simp;omega)⟩
 ·rintro r V2 t ⟨j,k,l,rfl,u⟩;have f:b2=!b1:=by cases b1<;>cases b2<;>simp_all
  subst f;refine ⟨_,_,_,_,rfl,fun a o g=>fin (u.le g) ?_,fun a o g=>(zB (hb.le (d.trans (t.trans g))) (ha.le (d.trans (t.trans g))) hn hm).mono ?_⟩
  ·have a:val xb<=val xa:=by simpa using a
   unfold aZ;cases b1<;>simp<;>omega
  ·rintro r v w ⟨y,z,A,rfl,C⟩;have a:val xa<val xb:=by simpa using a
   exact ⟨_,_,_,_,rfl,fun B s=>fin (C.le s) (by unfold aZ;cases b1<;>simp<;>omega)⟩
theorem tw {V:View}(b:Bool){p:OA}{n c:Nat}{ds:List Nat}(h:RD V p n c ds)(hm:ds.length<=1099511627776)(hs:val ds<4611686018427387904) :
  ae prog 192 #[.agg #[.bool b,.slice p n c]] V fun r V'=>r=.tuple #[.int .i64 (aZ b ds),.bool true]:=by
 refine rU b p n c V _ fun i g=>(kS (h.le g) hm).mono ?_;rintro r V2 j rfl;rw [if_pos (by omega),decide_eq_true (show val ds<18446744073709551616 by omega)];refine ⟨_,_,rfl,fun _=>⟨fun d=>⟨fun a k l=>?_,fun a=>?_⟩,fun d=>⟨fun _=>⟨fun a=>⟨fun f m o=>?_,fun f=>?_⟩,fun a=>?_⟩,fun a=>nomatch a⟩⟩,fun d=>nomatch d⟩
 ·subst d
  have e:i64.wrap (u64.wrap (0-(val ds:Int)))=-(val ds:Int):=by
   rw [rR,IntKind.wrap_i64];omega
  rw [e];rfl
 ·simp at a;omega
 ·subst d;rw [aw (by omega)];rfl
 ·simp at f;omega
 ·simp [d] at a
end Go.Proofs.Tryz
namespace Go.Eng
open Go.Big
def Wd (q:Rat):Prop:=q.num.natAbs<4611686018427387904/\q.den<4611686018427387904
def RR (V:View)(v:Value)(q:Rat):Prop:=
 (v=.agg #[.int .i64 q.num,.int .i64 ((q.den:Int)-1),.pointer none]/\Wd q) \/
 (∃a b p n c p' n' c',v=.agg #[.int .i64 0,.int .i64 0,.pointer (some a)]/\V.at (a.add 0) (.bool b)/\V.at (a.add 1) (.slice p n c)/\V.at (a.add 2) (.slice p' n' c') /\
  RI V (.agg #[.bool b,.slice p n c]) q.num/\RD V p' n' c' (ai q.den)/\¬Wd q)
theorem RR.le {V V':View}{v:Value}{q:Rat}(h:RR V v q)(l:V.Le V'):RR V' v q:=by
 rcases h with h|⟨a,b,p,n,c,d,f,g,e,i,j,k,m,o,r⟩
 ·exact .inl h
 ·exact .inr ⟨a,b,p,n,c,d,f,g,e,l.at i,l.at j,l.at k,m.le l,o.le l,r⟩
def Sz (k:Nat)(q:Rat):Prop:=q.num.natAbs<2^k/\q.den<2^k
theorem Sz.mono {k m:Nat}{q:Rat}(h:Sz k q)(hm:k<=m):Sz m q:=
 ⟨Nat.lt_of_lt_of_le h.1 (Nat.pow_le_pow_right (by omega) hm),Nat.lt_of_lt_of_le h.2 (Nat.pow_le_pow_right (by omega) hm)⟩
theorem ag {n k:Nat}(h:n<2^k):(ai n).length<=k:=by
 rw [aD];exact Nat.lt_of_lt_of_le h (Nat.pow_le_pow_left (by omega) k)
theorem Wd.sz {q:Rat}(h:Wd q):Sz 62 q:=h
theorem RR.shape {V:View}{v:Value}{q:Rat}(h:RR V v q):∃(n d:Int)(p:OA),v=.agg #[.int .i64 n,.int .i64 d,.pointer p]:=by
 rcases h with ⟨e,-⟩|⟨a,b,p,n,c,f,g,i,e,-⟩
 ·exact ⟨_,_,_,e⟩
 ·exact ⟨_,_,_,e⟩
end Go.Eng
namespace Go.Proofs.Tryz
open Go.Eng Go.Big
theorem AA (n:Nat):decide ((bG n:Int)<=62)=decide (n<4611686018427387904):=by
 have:=@fR n 62;rw [Bool.eq_iff_iff,decide_eq_true_eq,decide_eq_true_eq];omega
theorem HL {z:Int}{d:Nat}(hd:d≠0)(hg:Nat.gcd z.natAbs d=1):(mkRat z d).num=z/\(mkRat z d).den=d:=by
 have:Nat.gcd d z.natAbs=1:=by rw [Nat.gcd_comm];exact hg
 rw [Rat.num_mkRat,Rat.den_mkRat,if_neg hd,if_neg hd,this];simp
theorem cx {V:View}(b:Bool){p q:OA}{n c m e:Nat}{xs ys:List Nat}(hx:RD V p n c xs)(hy:RD V q m e ys)(hm:xs.length<=1099511627776)(hn:ys.length<=1099511627776) :
  ae prog 147 #[.agg #[.bool b,.slice p n c],.slice q m e] V fun r V'=>RR V' r (mkRat (aZ b xs) (val ys)):=by
 have zero:∀V':View,RR V' (.agg #[.int .i64 0,.int .i64 0,.pointer none]) 0:=fun V'=>.inl ⟨rfl,by unfold Wd;decide⟩;refine wL b p n c q m e V _ fun D h=>(gD (hy.le h) hn).mono ?_;rintro r V2 o rfl;refine ⟨_,rfl,fun M E N=>?_,fun M O s=>(lY b (hx.le (h.trans (o.trans s))) hm).mono ?_⟩
 ·have:val ys=0:=ka.1 (by simp at M;omega);rw [this,Rat.mkRat_zero];exact zero _
 rintro r t u rfl;have v:val ys≠0:=fun e=>by simp [ka.2 e] at M
 refine ⟨_,rfl,fun P V6 l6=>?_,fun P V7 l7=>?_⟩
 ·have:aZ b xs=0:=Int.sign_eq_zero_iff_zero.1 (by simpa using P);rw [this,Rat.zero_mkRat];exact zero _
 have a1:aZ b xs≠0:=fun e=>by simp [e] at P
 have y:val xs≠0:=by rw [←fJ b xs];omega
 replace hx:=hx.le (h.trans (o.trans (s.trans (u.trans l7))))
 replace hy:=hy.le (h.trans (o.trans (s.trans (u.trans l7))))
 refine (qY hx hy hm hn).mono ?_;rintro r V8 l8 ⟨p3,n3,c3,rfl,A⟩
 replace hx:=hx.le l8
 replace hy:=hy.le l8
 have Q:Nat.gcd (val xs) (val ys)<=val ys:=Nat.le_of_dvd (by omega) (Nat.gcd_dvd_right _ _);have i:(ai (Nat.gcd (val xs) (val ys))).length<=1099511627776:=Nat.le_trans (aC Q) (by have:=bo hy.fk;omega)
 have R:Nat.gcd (val xs) (val ys)≠0:=by
  intro S;exact y (Nat.eq_zero_of_gcd_eq_zero_left S)
 refine ⟨_,_,_,rfl,fun V9 F=>(gD (A.le F) i).mono ?_⟩;rintro r gu j rfl;rw [af]
 replace hx:=hx.le (F.trans j)
 replace hy:=hy.le (F.trans j)
 replace A:=A.le (F.trans j)
 refine ⟨_,rfl,fun z V'=>∃(us d:List Nat),z.2.2.2.1=b/\RD V' z.2.2.2.2.1 z.2.2.2.2.2.1 z.2.2.2.2.2.2 us/\RD V' z.1 z.2.1 z.2.2.1 d/\us.length<=1099511627776/\d.length<=1099511627776/\val d≠0 /\
  Nat.gcd (val us) (val d)=1/\mkRat (aZ b xs) (val ys)=mkRat (aZ b us) (val d),⟨fun G fg H=>?_,fun G=>?_⟩,?_⟩
 ·refine (kR (hx.le H) (A.le H) hm i (by rw [af];exact R)).mono ?_;rintro r ib cu ⟨p4,n4,c4,p5,n5,c5,rfl,g1,g2⟩;refine ⟨_,_,_,_,_,_,_,rfl,fun lG T=>(kR (hy.le (H.trans (cu.trans T))) (A.le (H.trans (cu.trans T))) hn i (by rw [af];exact R)).mono ?_⟩;rintro r j8 dF ⟨p6,n6,c6,p7,n7,c7,rfl,g3,g4⟩;rw [af] at g1 g3;have e1:val (ai (val xs / Nat.gcd (val xs) (val ys)))=val xs / Nat.gcd (val xs) (val ys):=af _;have U:val (ai (val ys / Nat.gcd (val xs) (val ys)))=val ys / Nat.gcd (val xs) (val ys):=af _;have d1:=Nat.gcd_dvd_left (val xs) (val ys);have d2:=Nat.gcd_dvd_right (val xs) (val ys)
  have W:val ys / Nat.gcd (val xs) (val ys)≠0:=by
   intro S;have:=Nat.div_mul_cancel d2;rw [S,Nat.zero_mul] at this;exact v this.symm
  refine ⟨_,_,_,_,_,_,_,rfl,(p6,n6,c6,b,p4,n4,c4),by (try dsimp only);and_intros<;>trivial,_,_,rfl,g1.le (T.trans dF),g3,?_,?_,?_,?_,?_⟩
  ·exact Nat.le_trans (aC (Nat.div_le_self _ _)) (by have:=bo hx.fk;omega)
  ·exact Nat.le_trans (aC (Nat.div_le_self _ _)) (by have:=bo hy.fk;omega)
  ·rw [U];exact W
  ·rw [e1,U];exact Nat.gcd_div_gcd_div_gcd_of_pos_left (by omega)
  ·rw [U];have k1:val ys=val ys / Nat.gcd (val xs) (val ys)*Nat.gcd (val xs) (val ys):=(Nat.div_mul_cancel d2).symm
   have k2:aZ b xs=aZ b (ai (val xs / Nat.gcd (val xs) (val ys)))*(Nat.gcd (val xs) (val ys):Nat):=by
    have k3:(val xs:Int)=((val xs / Nat.gcd (val xs) (val ys):Nat):Int)*(Nat.gcd (val xs) (val ys):Nat):=by
     rw [←Int.natCast_mul,Nat.div_mul_cancel d1]
    unfold aZ;rw [e1];cases b
    ·simpa using k3
    ·simp only [if_true];rw [Int.neg_mul,←k3]
   conv=>lhs;rw [k1,k2]
   exact Rat.mkRat_mul_right R
 ·have X:Nat.gcd (val xs) (val ys)=1:=by
   have f:¬(1<bG (Nat.gcd (val xs) (val ys))):=by simp at G;omega
   have:=@fR (Nat.gcd (val xs) (val ys)) 1;omega
  exact ⟨(q,m,e,b,p,n,c),by (try dsimp only);and_intros<;>trivial,xs,ys,rfl,hx,hy,hm,hn,v,X,rfl⟩
 ·rintro ⟨q,m,e,g,p,n,c⟩ kK dw ⟨us,d,B,hu,I,Y,k,Z,a0,hq⟩;dsimp only at B hu I ⊢;subst B;rw [hq];obtain ⟨tF,a⟩:=HL (z:=aZ g us) Z (by rw [fJ];exact a0);generalize mkRat (aZ g us) (val d)=w at *
  have hW:Wd w↔val us<4611686018427387904/\val d<4611686018427387904:=by
   unfold Wd;rw [tF,a,fJ]
  have Nr:∀D:View,kK.Le D->¬Wd w->ae prog 194 #[.agg #[.bool g,.slice p n c]] D fun r V2=>∃(IK:Bool)(Kb:OA)(JT IX:Nat),r=.agg #[.bool IK,.slice Kb JT IX] /\
    (∀E:View,V2.Le E->ae prog 195 #[.slice q m e] E fun r O=>∃(YY:OA)(YP XI:Nat),r=.slice YY YP XI /\
    (∀t:View,O.Le t->∀J:Nat,t.bw J (.cells #[.bool IK,.slice Kb JT IX,.slice YY YP XI] 271 (0,0))->RR t (.agg #[.int .i64 0,.int .i64 0,.pointer (some ⟨J,0,none⟩)]) w)):=by
   intro D h hw;refine (iP g (hu.le h) Y).mono ?_;rintro r V2 o It;obtain ⟨p2,n2,c2,rfl,G⟩:=It;have It:RI V2 (.agg #[.bool (decide (aZ g us<0)),.slice p2 n2 c2]) (aZ g us):=⟨_,_,_,rfl,G⟩;refine ⟨_,_,_,_,rfl,fun E N=>(iQ (I.le (h.trans (o.trans N))) k).mono ?_⟩;rintro r O s ⟨p3,n3,c3,rfl,f⟩;refine ⟨_,_,_,rfl,fun t u J hb=>.inr ⟨⟨J,0,none⟩,decide (aZ g us<0),p2,n2,c2,p3,n3,c3,rfl,?_,?_,?_,?_,?_,hw⟩⟩
   ·rw [add_zero'];exact fS (xs:=[_,_,_]) hb rfl
   ·rw [add_zero'];exact fS (xs:=[_,_,_]) hb rfl
   ·rw [add_zero'];exact fS (xs:=[_,_,_]) hb rfl
   ·rw [tF];exact It.le (N.trans (s.trans u))
   ·rw [a];exact f.le u
  refine ⟨by trivial,fun mS l=>(gD (hu.le l) Y).mono ?_⟩;rintro r pk C rfl;refine ⟨_,rfl,fun f uC K=>(gD (I.le (l.trans (C.trans K))) k).mono ?_,fun f Lw CX=>Nr Lw (l.trans (C.trans CX)) ?_⟩
  ·rintro r uD fw rfl;rw [AA,decide_eq_true_eq] at f;refine ⟨_,rfl,fun L Ei jL=>?_,fun L Nm po=>Nr Nm (l.trans (C.trans (K.trans (fw.trans po)))) ?_⟩
   ·rw [AA,decide_eq_true_eq] at L;refine (tw g (hu.le (l.trans (C.trans (K.trans (fw.trans jL))))) Y f).mono ?_;rintro r y_ iy rfl;refine ⟨_,_,rfl,fun xF m_=>(kS (I.le (l.trans (C.trans (K.trans (fw.trans (jL.trans (iy.trans m_))))))) k).mono ?_⟩;rintro r En jM rfl;rw [if_pos (by omega)];refine ⟨_,_,rfl,fun On Ek=>.inl ⟨?_,hW.2 ⟨f,L⟩⟩⟩;rw [aw (x:=((val d:Nat):Int)) (by omega),aw (by omega),tF,a]
   ·rw [AA,decide_eq_false_iff_not] at L;rw [hW];omega
  ·rw [AA,decide_eq_false_iff_not] at f;rw [hW];omega
end Go.Proofs.Tryz
namespace Go.Eng
open Go.Big
theorem RI.inv {V:View}{b:Bool}{p:OA}{n c:Nat}{z:Int}(h:RI V (.agg #[.bool b,.slice p n c]) z):b=decide (z<0)/\RD V p n c (ai z.natAbs):=by
 obtain ⟨d,f,g,e,a⟩:=h;simp at e;obtain ⟨rfl,rfl,rfl,rfl⟩:=e;exact ⟨rfl,a⟩
end Go.Eng
namespace Go.Proofs.Tryz
open Go.Eng Go.Big
theorem fj {V:View}{v:Value}{q:Rat}(h:RR V v q){k:Nat}(hs:Sz k q)(hk:k<=1099511627776) :
  ae prog 153 #[v] V fun r V'=>RI V' r q.num:=by
 rcases h with ⟨rfl,hw⟩|⟨a,b,p,n,c,u,w,x,rfl,i,j,y,l,z,hw⟩
 ·have:=hw.1;refine oq _ _ _ V _ ⟨(fun d=>nomatch d),fun _ m f=>(jt _ (by omega) (by omega)).mono ?_⟩;rintro r V2 o ⟨p,n,c,rfl,g⟩;exact ⟨_,_,_,_,rfl,fun s e=>⟨_,_,_,rfl,g.le e⟩⟩
 ·obtain ⟨rfl,t⟩:=l.inv;refine oq _ _ _ V _ ⟨fun _=>⟨rfl,rfl,decide (q.num<0),p,n,c,a.add 0,rfl,?_,?_,fun m f=>(iP _ (t.le f) (Nat.le_trans (ag hs.1) hk)).mono ?_⟩,fun d=>nomatch d⟩
  ·exact i
  ·simpa [Addr.add] using j
  ·rintro r V2 o ⟨p,n,c,rfl,g⟩;rw [aE] at g ⊢;exact ⟨_,_,_,_,rfl,fun s e=>⟨_,_,_,rfl,g.le e⟩⟩
theorem dT {V:View}{v:Value}{q:Rat}(h:RR V v q){k:Nat}(hs:Sz k q)(hk:k<=1099511627776) :
  ae prog 151 #[v] V fun r V'=>∃p n c,r=.slice p n c/\RN V' p n c q.den:=by
 rcases h with ⟨rfl,hw⟩|⟨a,b,p,n,c,s,t,u,rfl,w,x,i,y,j,hw⟩
 ·have:=hw.2;have z:=q.den_nz;refine oa _ _ _ V _ ⟨(fun d=>nomatch d),fun _ l f=>?_⟩;rw [aw (by omega),aN (by omega)];refine (dJ _ (by omega) (by omega)).mono ?_;rintro r V2 m ⟨p,n,c,rfl,g⟩;rw [show ((q.den:Int)-1+1).toNat=q.den from by omega] at g;exact ⟨_,_,_,rfl,fun o e=>⟨_,_,_,rfl,g.le e⟩⟩
 ·refine oa _ _ _ V _ ⟨fun _=>⟨rfl,rfl,_,_,_,⟨_,rfl,i⟩,fun l f=>(iQ (j.le f) (Nat.le_trans (ag hs.2) hk)).mono ?_⟩,fun d=>nomatch d⟩;rintro r V2 m ⟨p,n,c,rfl,g⟩;rw [af] at g;exact ⟨_,_,_,rfl,fun o e=>⟨_,_,_,rfl,g.le e⟩⟩
theorem iO {V:View}(n:Int)(h0:-9223372036854775808<n)(h1:n<=9223372036854775807) :
  ae prog 149 #[.int .i64 n] V fun r V'=>r=.int .u64 (n.natAbs:Int):=by
 refine DP n V _ ⟨fun a b c=>?_,fun a b c=>?_⟩
 ·have a:n<0:=by simpa using a
  rw [aw (by omega),aN (by omega)];congr 1;omega
 ·have a:0<=n:=by simpa using a
  rw [aN (by omega)];congr 1;omega
theorem uT {V:View}(x y:Nat)(hx:x<18446744073709551616)(hy:y<18446744073709551616) :
  ae prog 148 #[.int .u64 (x:Int),.int .u64 (y:Int)] V fun r V'=>r=.int .u64 (Nat.gcd x y:Int):=by
 refine DQ _ _ V _ ⟨fun z V'=>∃a b:Nat,z=((a:Int),(b:Int))/\Nat.gcd a b=Nat.gcd x y,fun z=>z.2.toNat,
  ⟨((x:Int),(y:Int)),by (try dsimp only);and_intros<;>trivial,x,y,rfl,rfl⟩,?_⟩
 rintro _ g h ⟨a,b,rfl,d⟩;dsimp only;refine ⟨by trivial,fun c=>?_,fun c i j=>?_⟩
 ·have c:b≠0:=by rw [bne_iff_ne] at c;omega
  have e:a%b<b:=Nat.mod_lt _ (by omega);have f:(a:Int).tmod (b:Int)=((a%b:Nat):Int):=by rw [Int.tmod_eq_emod_of_nonneg (by omega),←Int.natCast_emod]
  rw [f];exact ⟨by omega,((b:Int),((a%b:Nat):Int)),by (try dsimp only);rw [Int.toNat_natCast,Int.toNat_natCast];exact e,by (try dsimp only);and_intros<;>trivial,b,a%b,rfl,by rw [vy,d]⟩
 ·have c:b=0:=by rw [bne_eq_false_iff_eq] at c;omega
  subst c;rw [Nat.gcd_zero_right] at d;rw [d]
theorem fT {V:View}(a b:Int)(ha:a.natAbs<4611686018427387904)(hb:b.natAbs<4611686018427387904) :
  ae prog 234 #[.int .i64 a,.int .i64 b] V fun r V'=>∃z:Int,r=.tuple #[.int .i64 z,.bool (decide ((a*b).natAbs<4611686018427387904))]/\((a*b).natAbs<4611686018427387904->z=a*b):=by
 refine yq a b V _ fun k l=>(iO a (by omega) (by omega)).mono ?_;rintro r V2 m rfl;refine ⟨_,rfl,fun n o=>(iO b (by omega) (by omega)).mono ?_⟩;rintro r q s rfl;refine ⟨_,rfl,fun t u=>(LK _ _ (by omega) (by omega)).mono ?_⟩;rintro r v w rfl;have j:(a*b).natAbs=a.natAbs*b.natAbs:=Int.natAbs_mul a b
 have f:a*b=if (decide (a<0)==decide (b<0)) then ((a.natAbs*b.natAbs:Nat):Int) else -((a.natAbs*b.natAbs:Nat):Int):=by
  rw [Int.natCast_mul];by_cases c:a<0<;>by_cases d:b<0
  ·rw [decide_eq_true c,decide_eq_true d,show (a.natAbs:Int)=-a from by omega,show (b.natAbs:Int)=-b from by omega];simp [Int.neg_mul,Int.mul_neg]
  ·rw [decide_eq_true c,decide_eq_false d,if_neg (by decide),show (a.natAbs:Int)=-a from by omega,show (b.natAbs:Int)=b from by omega];simp [Int.neg_mul]
  ·rw [decide_eq_false c,decide_eq_true d,if_neg (by decide),show (a.natAbs:Int)=a from by omega,show (b.natAbs:Int)=-b from by omega];simp [Int.mul_neg]
  ·rw [decide_eq_false c,decide_eq_false d,show (a.natAbs:Int)=a from by omega,show (b.natAbs:Int)=b from by omega];simp
 rw [j];generalize a.natAbs*b.natAbs=p at *;refine ⟨_,_,rfl,fun e g i=>?_,fun e=>⟨fun c g i=>?_,fun c=>⟨fun d g i=>?_,fun d g i=>?_⟩⟩⟩
 ·have e:18446744073709551616<=p:=by rw [bne_iff_ne] at e;omega
  rw [decide_eq_false (by omega)];exact ⟨_,rfl,fun h=>by omega⟩
 ·have c:4611686018427387904<=p:=by
   rw [decide_eq_true_eq] at c;omega
  rw [decide_eq_false (by omega)];exact ⟨_,rfl,fun h=>by omega⟩
 ·have e:p / 18446744073709551616=0:=by rw [bne_eq_false_iff_eq] at e;omega
  have c:p<4611686018427387904:=by rw [decide_eq_false_iff_not] at c;omega
  rw [decide_eq_true c,aw (x:=((p%18446744073709551616:Nat):Int)) (by omega),aw (by omega)];refine ⟨_,rfl,fun _=>?_⟩;have d:(decide (a<0)==decide (b<0))=false:=by simpa using d
  rw [f,d,if_neg (by decide)];omega
 ·have e:p / 18446744073709551616=0:=by rw [bne_eq_false_iff_eq] at e;omega
  have c:p<4611686018427387904:=by rw [decide_eq_false_iff_not] at c;omega
  rw [decide_eq_true c,aw (x:=((p%18446744073709551616:Nat):Int)) (by omega)];refine ⟨_,rfl,fun _=>?_⟩;have d:(decide (a<0)==decide (b<0))=true:=by simpa using d
  rw [f,d,if_pos rfl];omega
theorem nR {V:View}(n:Int)(d:Nat)(hn:n.natAbs<4611686018427387904)(hd:d<4611686018427387904)(hd0:d≠0) :
  ae prog 235 #[.int .i64 n,.int .i64 (d:Int)] V fun r V'=>RR V' r (mkRat n d):=by
 refine wK n _ V _ fun o p=>(iO n (by omega) (by omega)).mono ?_;rintro r V2 q rfl;rw [aN (x:=(d:Int)) (by omega)];refine ⟨_,rfl,fun s t=>(uT _ _ (by omega) (by omega)).mono ?_⟩;rintro r u v rfl;have g:Nat.gcd n.natAbs d<=d:=Nat.le_of_dvd (by omega) (Nat.gcd_dvd_right _ _);have w:0<Nat.gcd n.natAbs d:=Nat.gcd_pos_of_pos_right _ (by omega);have c:=Rat.num_mkRat n d;have a:=Rat.den_mkRat n d;rw [if_neg hd0,Nat.gcd_comm] at c a;have b:(Nat.gcd n.natAbs d:Int)∣n:=Int.ofNat_dvd_left.2 (Nat.gcd_dvd_left _ _);have h:d / Nat.gcd n.natAbs d<=d:=Nat.div_le_self _ _
 have i:(n / (Nat.gcd n.natAbs d:Int)).natAbs<=n.natAbs:=by
  rw [Int.natAbs_ediv_of_dvd b,Int.natAbs_natCast];exact Nat.div_le_self _ _
 have f:Wd (mkRat n d):=by unfold Wd;rw [c,a];omega
 refine ⟨_,rfl,?_⟩;rw [aw (x:=((Nat.gcd n.natAbs d:Nat):Int)) (by omega)];refine ⟨fun e=>⟨by omega,by omega,fun j k=>.inl ⟨?_,f⟩⟩,fun e j k=>.inl ⟨?_,f⟩⟩
 ·rw [c,a];have l:n.tdiv (Nat.gcd n.natAbs d:Int)=n / (Nat.gcd n.natAbs d:Int):=Int.tdiv_eq_ediv_of_dvd b;have m:(d:Int).tdiv (Nat.gcd n.natAbs d:Int)=((d / Nat.gcd n.natAbs d:Nat):Int):=by rw [Int.tdiv_eq_ediv_of_nonneg (by omega),←Int.natCast_ediv]
  rw [l,m];generalize n / (Nat.gcd n.natAbs d:Int)=nn at *;generalize d / Nat.gcd n.natAbs d=dd at *;rw [aw (by omega),aw (x:=(dd:Int)) (by omega),aw (by omega)]
 ·have e:Nat.gcd n.natAbs d=1:=by rw [decide_eq_false_iff_not] at e;omega
  rw [c,a,e,aw (by omega)];simp
theorem mkRat_one (z:Int):mkRat z 1=(z:Rat):=by
 apply Rat.ext
 ·rw [Rat.num_mkRat];simp
 ·rw [Rat.den_mkRat];simp
theorem RD.one {V:View}{bk:Nat}{ty:TypeId}{m:Nat×Nat}(h:V.bw bk (.cells #[.int .u32 1] ty m)):RD V (some ⟨bk,0,none⟩) 1 1 [1]:=
 RD.bw (ds:=[1]) h (by simp [bV]) rfl (Nat.le_refl _)
theorem kP {V:View}(b:Bool){p:OA}{n c:Nat}{ds:List Nat}(h:RD V p n c ds)(hm:ds.length<=1099511627776) :
  ae prog 87 #[.agg #[.bool b,.slice p n c]] V fun r V'=>RR V' r (aZ b ds:Rat):=by
 refine yp b p n c V _ fun j f k g=>(cx b (h.le f) (RD.one g) hm (by simp)).mono ?_;rintro r V2 l a;have e:mkRat (aZ b ds) (val [1])=(aZ b ds:Rat):=mkRat_one _;rw [e] at a;obtain ⟨n,d,p,rfl⟩:=a.shape;exact ⟨_,_,_,rfl,fun _ m i=>a.le i⟩
theorem vE {z:Int}(h:z.natAbs<4611686018427387904):Wd (z:Rat):=⟨h,by show (1:Nat)<_;decide⟩
theorem iN {V:View}(n:Int)(h0:-9223372036854775808<=n)(h1:n<=9223372036854775807) :
  ae prog 91 #[.int .i64 n] V fun r V'=>RR V' r (n:Rat):=by
 have Nr:∀b:View,V.Le b->ae prog 154 #[.int .i64 n] b fun f V2=>∃IK:Bool,∃(Kb:OA)(JT IX:Nat),f=.agg #[.bool IK,.slice Kb JT IX]/\(∀a:View,V2.Le a->∀QD:Nat,a.bw QD (.cells #[.int .u32 1] 221 (0,0))->ae prog 147 #[.agg #[.bool IK,.slice Kb JT IX],.slice (some ⟨QD,0,none⟩) 1 1] a fun h l=>∃S_:Int,∃Zh:Int,∃Y0:OA,h=.agg #[.int .i64 S_,.int .i64 Zh,.pointer Y0]/\∀J7_:C->Value,(∀V5:View,l.Le V5->RR V5 (.agg #[.int .i64 S_,.int .i64 Zh,.pointer Y0]) (n:Rat))):=by
  intro b o;refine (jt n h0 h1).mono ?_;rintro r V2 u ⟨p,m,c,rfl,g⟩;refine ⟨_,_,_,_,rfl,fun a i v q=>(cx _ (g.le i) (RD.one q) (Nat.le_trans (ag (k:=64) (by omega)) (by omega)) (by simp)).mono ?_⟩;rintro r l w j;have e:mkRat (aZ (decide (n<0)) (ai n.natAbs)) (val [1])=(n:Rat):=by rw [aE];exact mkRat_one _
  rw [e] at j;obtain ⟨n,d,p,rfl⟩:=j.shape;exact ⟨_,_,_,rfl,fun _ a i=>j.le i⟩
 refine DM n V _ ⟨fun _=>Nr,fun s=>⟨fun _=>Nr,fun t b o=>.inl ⟨rfl,vE ?_⟩⟩⟩;rw [decide_eq_false_iff_not] at s t;omega
theorem pE {V:View}{v:Value}{q:Rat}(h:RR V v q){k:Nat}(hs:Sz k q)(hk:k<=1099511627776) :
  ae prog 160 #[v] V fun r V'=>r=.int .i64 q.num.sign:=by
 rcases h with ⟨rfl,hw⟩|⟨a,b,p,n,c,o,s,t,rfl,i,j,u,l,w,hw⟩
 ·refine mP _ _ _ V _ ⟨(fun e=>nomatch e),fun _=>⟨fun h f d=>?_,fun h=>⟨fun g f d=>?_,fun g f d=>?_⟩⟩⟩
  ·rw [Int.sign_eq_neg_one_of_neg (by simpa using h)]
  ·rw [Int.sign_eq_one_of_pos (by simpa using g)]
  ·have:q.num=0:=by rw [decide_eq_false_iff_not] at h g;omega
   rw [this];rfl
 ·obtain ⟨rfl,m⟩:=l.inv;refine mP _ _ _ V _ ⟨fun _=>⟨rfl,rfl,decide (q.num<0),p,n,c,a.add 0,rfl,?_,?_,fun f d=>(lY _ (m.le d) (Nat.le_trans (ag hs.1) hk)).mono ?_⟩,(fun e=>nomatch e)⟩
  ·exact i
  ·simpa [Addr.add] using j
  ·rintro r V2 x rfl;rw [aE];exact ⟨_,rfl,fun y z=>rfl⟩
theorem pF {V:View}{v:Value}{q:Rat}(h:RR V v q):ae prog 88 #[v] V fun r V'=>r=.bool (decide (q=0)):=by
 rcases h with ⟨rfl,hw⟩|⟨a,b,p,n,c,i,j,k,rfl,l,m,o,s,t,hw⟩
 ·refine mQ _ _ _ V _ ⟨fun _ f g=>?_,(fun d=>nomatch d)⟩;congr 1;rw [Bool.eq_iff_iff,beq_iff_eq,decide_eq_true_eq];exact Rat.num_eq_zero
 ·refine mQ _ _ _ V _ ⟨(fun d=>nomatch d),fun _ f g=>?_⟩;congr 1;symm;rw [decide_eq_false_iff_not];intro e;subst e;exact hw ⟨by decide,by decide⟩
theorem gL {V:View}{v:Value}{q:Rat}(h:RR V v q){k:Nat}(hs:Sz k q)(hk:k<=1099511627776) :
  ae prog 163 #[v] V fun r V'=>RR V' r (-q):=by
 rcases h with ⟨rfl,hw⟩|⟨a,b,p,n,c,i,j,l,rfl,s,t,u,w,x,hw⟩
 ·have:=hw.1;refine oo _ _ _ V _ ⟨(fun d=>nomatch d),fun _ y e=>.inl ⟨?_,by unfold Wd;rw [Rat.neg_num,Rat.neg_den,Int.natAbs_neg];exact hw⟩⟩;rw [aw (by omega),Rat.neg_num,Rat.neg_den,Int.zero_sub]
 ·obtain ⟨rfl,z⟩:=w.inv;refine oo _ _ _ V _ ⟨fun _=>⟨rfl,rfl,decide (q.num<0),p,n,c,a.add 0,rfl,?_,?_,rfl,rfl,i,j,l,⟨_,rfl,u⟩,fun y e=>(xO _ (z.le e) (Nat.le_trans (ag hs.1) hk)).mono ?_⟩,(fun d=>nomatch d)⟩
  ·exact s
  ·simpa [Addr.add] using t
  ·rintro r V2 A m;rw [aE] at m;obtain ⟨B,C,D,rfl,g⟩:=m;refine ⟨_,_,_,_,rfl,fun F o E f=>.inr ⟨⟨E,0,none⟩,decide (-q.num<0),B,C,D,i,j,l,rfl,?_,?_,?_,?_,?_,?_⟩⟩
   ·rw [add_zero'];exact fS (xs:=[_,_,_]) f rfl
   ·rw [add_zero'];exact fS (xs:=[_,_,_]) f rfl
   ·rw [add_zero'];exact fS (xs:=[_,_,_]) f rfl
   ·exact ⟨_,_,_,rfl,g.le o⟩
   ·exact x.le (e.trans (A.trans o))
   ·unfold Wd;rw [Rat.neg_num,Rat.neg_den,Int.natAbs_neg];exact hw
theorem _root_.Go.Eng.Sz.neg {k:Nat}{q:Rat}(h:Sz k q):Sz k (-q):=by unfold Sz;rw [Rat.neg_num,Rat.neg_den,Int.natAbs_neg];exact h
theorem vT (z:Int)(g:Nat)(h:(g:Int)∣z):(z / g).natAbs<=z.natAbs:=by
 rw [Int.natAbs_ediv_of_dvd h,Int.natAbs_natCast];exact Nat.div_le_self _ _
theorem _root_.Go.Eng.Sz.mkRat {k:Nat}{z:Int}{d:Nat}(h1:z.natAbs<2^k)(h2:d<2^k)(hk:0<k):Sz k (mkRat z d):=by
 have a:1<2^k:=Nat.one_lt_two_pow (by omega);unfold Sz;rw [Rat.num_mkRat,Rat.den_mkRat];split
 ·exact ⟨Nat.two_pow_pos k,a⟩
 ·refine ⟨Nat.lt_of_le_of_lt (vT _ _ (Int.ofNat_dvd_left.2 (Nat.gcd_dvd_right _ _))) h1,Nat.lt_of_le_of_lt (Nat.div_le_self _ _) h2⟩
theorem bN {a b k m:Nat}(h1:a<2^k)(h2:b<2^m):a*b<2^(k+m):=by rw [Nat.pow_add];exact Nat.mul_lt_mul'' h1 h2
theorem uE {x y:Rat}{k m:Nat}(hx:Sz k x)(hy:Sz m y):(x.num*y.den).natAbs<2^(k+m)/\(y.num*x.den).natAbs<2^(k+m)/\(x.num*y.den+y.num*x.den).natAbs<2^(k+m+1)/\x.den*y.den<2^(k+m):=by
 have a:(x.num*y.den).natAbs<2^(k+m):=by rw [Int.natAbs_mul,Int.natAbs_natCast];exact bN hx.1 hy.2
 have b:(y.num*x.den).natAbs<2^(k+m):=by rw [Int.natAbs_mul,Int.natAbs_natCast,Nat.add_comm];exact bN hy.1 hx.2
 refine ⟨a,b,?_,bN hx.2 hy.2⟩;rw [Nat.pow_succ];omega
theorem _root_.Go.Eng.Sz.add {x y:Rat}{k m:Nat}(hx:Sz k x)(hy:Sz m y):Sz (k+m+1) (x+y):=by
 obtain ⟨-,-,a,b⟩:=uE hx hy;rw [Rat.add_def'];exact Go.Eng.Sz.mkRat a (Nat.lt_of_lt_of_le b (Nat.pow_le_pow_right (by omega) (by omega))) (by omega)
theorem _root_.Go.Eng.Sz.sub {x y:Rat}{k m:Nat}(hx:Sz k x)(hy:Sz m y):Sz (k+m+1) (x-y):=by
 rw [Rat.sub_eq_add_neg];exact hx.add hy.neg
theorem _root_.Go.Eng.Sz.mul {x y:Rat}{k m:Nat}(hx:Sz k x)(hy:Sz m y):Sz (k+m+1) (x*y):=by
 rw [Rat.mul_def'];refine (Go.Eng.Sz.mkRat (k:=k+m+1) ?_ ?_ (by omega))
 ·rw [Int.natAbs_mul];exact Nat.lt_of_lt_of_le (bN hx.1 hy.1) (Nat.pow_le_pow_right (by omega) (by omega))
 ·exact Nat.lt_of_lt_of_le (bN hx.2 hy.2) (Nat.pow_le_pow_right (by omega) (by omega))
theorem pD {V:View}{v w:Value}{x y:Rat}(hx:RR V v x)(hy:RR V w y){k m:Nat}(hk:Sz k x)(hm:Sz m y)(hkm:k+m<1099511627776) :
  ae prog 199 #[v,w] V fun r V'=>RR V' r (x+y):=by
 obtain ⟨O,P,Q,rfl⟩:=hx.shape;obtain ⟨R,s1,s2,rfl⟩:=hy.shape;have l:x+y=mkRat (x.num*y.den+y.num*x.den) (x.den*y.den):=Rat.add_def' x y;obtain ⟨b1,b2,b3,b4⟩:=uE hk hm
 have gen:(∀Tl:View,V.Le Tl->ae prog 153 #[.agg #[.int .i64 O,.int .i64 P,.pointer Q]] Tl fun Wh T1=>∃Qx:Bool,∃(Kc:OA)(JU IY:Nat),Wh=.agg #[.bool Qx,.slice Kc JU IY]/\(∀T2:View,T1.Le T2->ae prog 151 #[.agg #[.int .i64 R,.int .i64 s1,.pointer s2]] T2 fun Wi Xe=>∃(Ss:OA)(R8 QH:Nat),Wi=.slice Ss R8 QH/\(∀Xf:View,Xe.Le Xf->ae prog 236 #[.agg #[.bool Qx,.slice Kc JU IY],.agg #[.bool false,.slice Ss R8 QH]] Xf fun Wj Zw=>∃Qy:Bool,∃(Kd:OA)(JV IZ:Nat),Wj=.agg #[.bool Qy,.slice Kd JV IZ]/\(∀Xg:View,Zw.Le Xg->ae prog 153 #[.agg #[.int .i64 R,.int .i64 s1,.pointer s2]] Xg fun Wk Zx=>∃Qz:Bool,∃(Sw:OA)(Sa QK:Nat),Wk=.agg #[.bool Qz,.slice Sw Sa QK]/\(∀Xi:View,Zx.Le Xi->ae prog 151 #[.agg #[.int .i64 O,.int .i64 P,.pointer Q]] Xi fun Wl Zy=>∃(Ke:OA)(JW I0:Nat),Wl=.slice Ke JW I0/\(∀Xj:View,Zy.Le Xj->ae prog 236 #[.agg #[.bool Qz,.slice Sw Sa QK],.agg #[.bool false,.slice Ke JW I0]] Xj fun Wm Zz=>∃QA:Bool,∃(Kf:OA)(JX I1:Nat),Wm=.agg #[.bool QA,.slice Kf JX I1]/\(∀Xk:View,Zz.Le Xk->ae prog 237 #[.agg #[.bool Qy,.slice Kd JV IZ],.agg #[.bool QA,.slice Kf JX I1]] Xk fun Wn ZA=>∃QB:Bool,∃(SA:OA)(Se QN:Nat),Wn=.agg #[.bool QB,.slice SA Se QN]/\(∀Xl:View,ZA.Le Xl->ae prog 151 #[.agg #[.int .i64 O,.int .i64 P,.pointer Q]] Xl fun Wo ZB=>∃(SB:OA)(Sf QO:Nat),Wo=.slice SB Sf QO/\(∀Xm:View,ZB.Le Xm->ae prog 151 #[.agg #[.int .i64 R,.int .i64 s1,.pointer s2]] Xm fun Wp ZC=>∃(Kg:OA)(Sg QP:Nat),Wp=.slice Kg Sg QP/\(∀Xn:View,ZC.Le Xn->ae prog 150 #[.slice SB Sf QO,.slice Kg Sg QP] Xn fun Wq ZD=>∃(SC:OA)(Si QQ:Nat),Wq=.slice SC Si QQ/\(∀Xo:View,ZD.Le Xo->ae prog 147 #[.agg #[.bool QB,.slice SA Se QN],.slice SC Si QQ] Xo fun Wr ZE=>∃Tc:Int,∃Td:Int,∃SD:OA,Wr=.agg #[.int .i64 Tc,.int .i64 Td,.pointer SD]/\(∀Xp:View,ZE.Le Xp->RR Xp (.agg #[.int .i64 Tc,.int .i64 Td,.pointer SD]) (x+y))))))))))))):=by
  intro s f;refine (fj (hx.le f) hk (by omega)).mono ?_;rintro r V2 g ⟨p1,n1,c1,rfl,z⟩;refine ⟨_,_,_,_,rfl,fun V3 i=>(dT (hy.le (f.trans (g.trans i))) hm (by omega)).mono ?_⟩;rintro r V4 A ⟨p2,n2,c2,rfl,B⟩;have q1:=ag hk.1;have q2:=ag hk.2;have q3:=ag hm.1;have q4:=ag hm.2;refine ⟨_,_,_,rfl,fun V5 t=>(gM _ false (z.le (i.trans (A.trans t))) (B.le t) (by omega)).mono ?_⟩;rintro r V6 I h6;rw [aE,oJ,af] at h6;obtain ⟨p3,n3,c3,rfl,u⟩:=h6;refine ⟨_,_,_,_,rfl,fun V7 C=>(fj (hy.le (f.trans (g.trans (i.trans (A.trans (t.trans (I.trans C))))))) hm (by omega)).mono ?_⟩;rintro r V8 J ⟨p4,n4,c4,rfl,K⟩;refine ⟨_,_,_,_,rfl,fun V9 D=>(dT (hx.le (f.trans (g.trans (i.trans (A.trans (t.trans (I.trans (C.trans (J.trans D))))))))) hk (by omega)).mono ?_⟩;rintro r gu j ⟨p5,n5,c5,rfl,L⟩;refine ⟨_,_,_,rfl,fun fg E=>(gM _ false (K.le (D.trans (j.trans E))) (L.le E) (by omega)).mono ?_⟩;rintro r ib cu F;rw [aE,oJ,af] at F;obtain ⟨p6,n6,c6,rfl,g6⟩:=F;have q5:=ag b1;have q6:=ag b2;refine ⟨_,_,_,_,rfl,fun lG S=>(xN _ _ (u.le (C.trans (J.trans (D.trans (j.trans (E.trans (cu.trans S))))))) (g6.le S) (by omega) (by omega)).mono ?_⟩;rintro r j8 dF Nu;rw [aE,aE] at Nu;obtain ⟨p7,n7,c7,rfl,g7⟩:=Nu;have Nf:=f.trans (g.trans (i.trans (A.trans (t.trans (I.trans (C.trans (J.trans (D.trans (j.trans (E.trans (cu.trans (S.trans dF))))))))))));refine ⟨_,_,_,_,rfl,fun kK T=>(dT (hx.le (Nf.trans T)) hk (by omega)).mono ?_⟩;rintro r mS dh ⟨p8,n8,c8,rfl,g8⟩;refine ⟨_,_,_,rfl,fun pk U=>(dT (hy.le (Nf.trans (T.trans (dh.trans U)))) hm (by omega)).mono ?_⟩;rintro r uC d_ ⟨p9,n9,c9,rfl,g9⟩;refine ⟨_,_,_,rfl,fun uD W=>(gE (g8.le (U.trans (d_.trans W))) (g9.le W) (by omega)).mono ?_⟩;rintro r Ei jL ⟨Iw,a0,a1,rfl,G⟩;rw [af,af] at G;have q7:=ag b3;have q8:=ag b4;refine ⟨_,_,_,rfl,fun y_ iy=>(cx _ (g7.le (T.trans (dh.trans (U.trans (d_.trans (W.trans (jL.trans iy))))))) (G.le iy) (by omega) (by omega)).mono ?_⟩;rintro r xF m_ o;rw [aE,af,←l] at o;obtain ⟨n,d,p,rfl⟩:=o.shape;exact ⟨_,_,_,rfl,fun En jM=>o.le jM⟩
 have lift:∀s:View,V.Le s->∀V2:View,s.Le V2->V.Le V2:=fun _ h _ h'=>h.trans h';rcases hx with ⟨ex,wx⟩|⟨a,b,p,n,c,p',n',c',ex,-,-,-,-,-,wx⟩
 ·rcases hy with ⟨H,wy⟩|⟨a,b,p,n,c,p',n',c',H,-,-,-,-,-,wy⟩
  ·simp only [Value.agg.injEq,Array.mk.injEq,List.cons.injEq,Value.int.injEq,Value.pointer.injEq,true_and,and_true] at ex H;obtain ⟨rfl,rfl,rfl⟩:=ex;obtain ⟨rfl,rfl,rfl⟩:=H;obtain ⟨S1,Ze⟩:=wx;obtain ⟨S2,Zf⟩:=wy;have dx:=x.den_nz;have dy:=y.den_nz;have e1:i64.wrap ((x.den:Int)-1+1)=x.den:=by rw [aw (by omega)];omega
   have e2:i64.wrap ((y.den:Int)-1+1)=y.den:=by rw [aw (by omega)];omega
   refine jV _ _ _ _ _ _ V _ ⟨fun _=>⟨fun _ _=>True,⟨fun _=>⟨fun M=>⟨fun N s f=>?_,fun N=>?_⟩,fun M=>?_⟩,(fun h=>nomatch h)⟩,fun _ s f _=>⟨by trivial,fun V2 g=>gen V2 (f.trans g)⟩⟩,(fun h=>nomatch h)⟩
   ·have M:x.den=1:=by rw [beq_iff_eq] at M;omega
    have N:y.den=1:=by rw [beq_iff_eq] at N;omega
    rw [aw (by omega)];refine (iN _ (by omega) (by omega)).mono ?_;rintro r V2 g q
    have e:((x.num+y.num:Int):Rat)=x+y:=by
     rw [l,M,N];simp only [Nat.mul_one,Int.natCast_one,Int.mul_one];exact (mkRat_one _).symm
    rw [e] at q;obtain ⟨n,d,p,rfl⟩:=q.shape;exact ⟨_,_,_,rfl,fun V3 i=>q.le i⟩
   all_goals
    rw [e1,e2];refine fun V4 A=>(fT _ _ S1 (by omega)).mono ?_;rintro r V5 t ⟨z1,rfl,X⟩;refine ⟨_,_,rfl,fun V6 I=>(fT _ _ S2 (by omega)).mono ?_⟩;rintro r V7 C ⟨z2,rfl,Y⟩;refine ⟨_,_,rfl,fun V8 J=>(fT _ _ (by omega) (by omega)).mono ?_⟩;rintro r V9 D ⟨z3,rfl,Z⟩;refine ⟨_,_,rfl,fun z=>⟨fun B=>⟨fun u=>⟨fun K=>⟨fun L gu j=>?_,fun _=>⟨(),by and_intros<;>rfl,trivial⟩⟩,fun _=>⟨(),by and_intros<;>rfl,trivial⟩⟩,fun _=>⟨(),by and_intros<;>rfl,trivial⟩⟩,fun _=>⟨(),by and_intros<;>rfl,trivial⟩⟩,fun _=>⟨(),by and_intros<;>rfl,trivial⟩⟩;rw [decide_eq_true_eq] at z B u K L;have k1:=X z;have k2:=Y B;have k3:=Z u;rw [←k1] at z;rw [←k2] at B;rw [←Int.natCast_mul,Int.natAbs_natCast] at u;rw [←Int.natCast_mul] at k3;rw [aw (by omega)] at K L ⊢;rw [k3];refine (nR _ _ (by omega) u (Nat.mul_ne_zero dx dy)).mono ?_;rintro r fg E q;rw [k1,k2,←l] at q;obtain ⟨n,d,p,rfl⟩:=q.shape;exact ⟨_,_,_,rfl,fun V3 i=>q.le i⟩
  ·simp only [Value.agg.injEq,Array.mk.injEq,List.cons.injEq,Value.int.injEq,Value.pointer.injEq,true_and,and_true] at ex H;obtain ⟨rfl,rfl,rfl⟩:=ex;obtain ⟨rfl,rfl,rfl⟩:=H;exact jV _ _ _ _ _ _ V _ ⟨fun _=>⟨fun _ _=>True,⟨(fun h=>nomatch h),fun _=>⟨(),by and_intros<;>rfl,trivial⟩⟩,fun _ s f _=>⟨by trivial,fun V2 g=>gen V2 (f.trans g)⟩⟩,(fun h=>nomatch h)⟩
 ·simp only [Value.agg.injEq,Array.mk.injEq,List.cons.injEq,Value.int.injEq,Value.pointer.injEq,true_and,and_true] at ex;obtain ⟨rfl,rfl,rfl⟩:=ex;exact jV _ _ _ _ _ _ V _ ⟨(fun h=>nomatch h),fun _=>gen⟩
end Go.Proofs.Tryz
