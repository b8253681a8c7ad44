import Derived.Test.YtdhlkpfmlimjfaaGreatDoorV10
import Derived.Test.YtdhlkpfmlimjfaaGreatDoorV7
set_option linter.unusedVariables false
open Go.IntKind (i64 u64 u32)
namespace Go.Proofs.Tryz
open Go.Eng Go.Big
theorem Cm {d Y r:Nat}(hd:d<4294967296)(hr:r<32) :
  (d+4294967296*Y) / 2^r=(d+4294967296*(Y%4294967296)) / 2^r%4294967296+4294967296*(Y / 2^r):=by
 have e:4294967296=2^r*2^(32-r):=by rw [←Nat.pow_add,Nat.add_sub_cancel' (by omega)]
 have c:=Nat.two_pow_pos r
 have l:=Nat.two_pow_pos (32-r)
 generalize ha:2^r=a at *
 generalize hb:2^(32-r)=b at *
 have f:∀Z,(d+4294967296*Z) / a=d / a+b*Z:=by
  intro Z
  rw [e,Nat.mul_assoc,Nat.add_mul_div_left _ _ c]
 rw [f,f]
 have g:d / a<b:=by
  rw [Nat.div_lt_iff_lt_mul c,Nat.mul_comm,←e];exact hd
 have h:b*(Y%4294967296)%4294967296=b*(Y%a):=by
  rw [e,Nat.mul_comm a b,Nat.mul_mod_mul_left,Nat.mod_mul_left_mod]
 have m:b*(Y%a)+b<=4294967296:=by
  have:Y%a+1<=a:=Nat.mod_lt _ c
  have:=Nat.mul_le_mul_left b this
  rw [Nat.mul_add,Nat.mul_one,Nat.mul_comm b a,←e] at this
  exact this
 have i:(d / a+b*(Y%4294967296))%4294967296=d / a+b*(Y%a):=by
  rw [Nat.add_mod,h,Nat.mod_eq_of_lt (a:=d / a) (by omega),Nat.mod_eq_of_lt (by omega)]
 rw [i]
 have j:=Nat.mod_add_div Y a
 have k:b*Y=b*(Y%a)+4294967296*(Y / a):=by
  conv=>lhs;rw [←j]
  rw [Nat.mul_add,←Nat.mul_assoc,Nat.mul_comm b a,←e]
 rw [k];omega
theorem oZ {xs:List Nat}(h:bI xs)(i:Nat):val (xs.drop i)%4294967296=(xs[i]?).getD 0:=by
 rcases Nat.lt_or_ge i xs.length with a|a
 ·rw [List.drop_eq_getElem_cons a,aU,List.getElem?_eq_getElem a,Option.getD_some,Nat.add_mul_mod_self_left,Nat.mod_eq_of_lt (h.get a)]
 ·rw [List.drop_of_length_le a,List.getElem?_eq_none a];rfl
theorem Fw {V:View}{p:OA}{n c:Nat}{ds:List Nat}(h:RD V p n c ds)(hm:ds.length<=1099511627776)(k:Nat)(hk:k<18446744073709551616) :
  Acts prog 240 #[.slice p n c,.int .u64 (k:Int)] V fun r V'=>∃p' n' c',r=.slice p' n' c'/\RN V' p' n' c' (val ds / 2^k):=by
 have T:=a_ h.eI
 refine Eg p n c k V _ fun V1 U=>(aM (h.le U) (by omega)).mono ?_
 rintro r V2 l2 ⟨n,rfl,B⟩
 rw [aJ h.eI] at B
 generalize val ds=x at *
 have hl:=B.len
 have P:(k:Int).tdiv 32=((k / 32:Nat):Int):=by rw [Int.tdiv_eq_ediv_of_nonneg (by omega)];omega
 have C:(k:Int).tmod 32=((k%32:Nat):Int):=by rw [Int.tmod_eq_emod_of_nonneg (by omega)];omega
 refine ⟨_,_,_,rfl,?_⟩
 rw [P,C]
 have q:x / 2^k=x / 4294967296^(k / 32) / 2^(k%32):=by
  rw [Nat.div_div_eq_div_mul,show (4294967296:Nat)=2^32 from rfl,←Nat.pow_mul,←Nat.pow_add,Nat.div_add_mod]
 rw [q]
 have W:k / 32<576460752303423488:=by omega
 generalize k / 32=w at *
 have E:k%32<32:=Nat.mod_lt _ (by omega)
 generalize k%32=r at *
 clear P C q
 refine ⟨by omega,fun j V3 l3=>?_,fun j=>?_⟩
 ·have j:n<=w:=by
   rw [aH (by omega),aH (by omega)] at j;simp at j;omega
  have:x / 4294967296^w=0:=Nat.div_eq_of_lt (Nat.lt_of_lt_of_le (az.1 (Nat.le_refl _)) (Nat.pow_le_pow_right (by omega) (by omega)))
  rw [this,Nat.zero_div]
  exact ⟨_,_,_,rfl,RD.nil⟩
 ·have j:w<n:=by
   rw [aH (by omega),aH (by omega)] at j;simp at j;omega
  simp (disch:=omega) only [i64w,aH,cq]
  have F:((n:Int)-w).toNat=n-w:=by omega
  rw [F]
  have G:x / 4294967296^w=val ((af x).drop w):=by
   have e:val (af x)=val ((af x).take w++(af x).drop w):=by rw [List.take_append_drop]
   have s:=fq ((ax x).take w)
   rw [cM,ab] at e
   rw [List.length_take,Nat.min_eq_left (by omega)] at e s
   have g:∀y,y=val ((af x).take w)+4294967296^w*val ((af x).drop w)->y / 4294967296^w=val ((af x).drop w):=by
    intro y X
    rw [X,Nat.add_mul_div_left _ _ (Nat.pow_pos (by omega)),Nat.div_eq_of_lt s,Nat.zero_add]
   exact g x e
  rw [G]
  refine ⟨by omega,by omega,by omega,by omega,by omega,fun z V'=>0<=z.1/\z.1<=(n-w:Nat)/\∃es:List Nat,z.2=ay es/\es.length=n-w/\bI es /\
   val (es.take z.1.toNat)+4294967296^z.1.toNat*(val ((af x).drop (w+z.1.toNat)) / 2^r)=val ((af x).drop w) / 2^r,fun z=>(n-w)-z.1.toNat,
   ⟨(0,ay (List.replicate (n-w) 0)),by (try dsimp only);and_intros<;>trivial,by (try dsimp only);omega,by (try dsimp only);omega,_,rfl,by simp,bI.rep _,by simp⟩,?_⟩
  rintro ⟨i,vs⟩ V4 Q ⟨t,H,es,rfl,I,m,b⟩
  dsimp only at t H b ⊢
  obtain ⟨i,rfl⟩:=Int.eq_ofNat_of_zero_le t
  simp only [Int.toNat_natCast] at b
  refine ⟨by trivial,fun u=>?_,fun u=>?_⟩
  ·have u:i<n-w:=by simpa using u
   simp (disch:=omega) only [i64w]
   refine (B.le Q).rd (w+i) (by omega) (by omega) ?_
   have R:=(ax x).get (i:=w+i) (by omega)
   have v:=Cm (Y:=val ((af x).drop (w+i+1))) R E
   rw [oZ (ax x)] at v
   have d:(min ((r:Nat):Int).toNat IntKind.u64.bits)=r:=by
    show min _ 64=r
    omega
   have o:val ((af x).drop (w+i))=(af x)[w+i]+4294967296*val ((af x).drop (w+i+1)):=by
    rw [List.drop_eq_getElem_cons (by omega),aU]
   rw [o] at b
   rw [v] at b
   have S:∀D:Nat,D=((af x)[w+i]+4294967296*((af x)[w+i+1]?).getD 0) / 2^r%4294967296 ->
     ∃a:List Nat,(ay es).set (0+i*1) (.int .u32 (D:Int))=ay a/\a.length=n-w/\bI a /\
     val (a.take (i+1))+4294967296^(i+1)*(val ((af x).drop (w+(i+1))) / 2^r)=val ((af x).drop w) / 2^r:=by
    intro D Z
    refine ⟨es.set i D,by rw [←aZ];simp,by simpa using I,m.set _ _ (by omega),?_⟩
    rw [aE _ _ _ (by omega),←b,Z,Nat.pow_succ,Nat.mul_add,Nat.add_assoc,Nat.mul_assoc,Nat.add_assoc w i 1]
   have A:((i:Int)+1).toNat=i+1:=by omega
   refine ⟨fun f=>?_,fun f=>?_⟩
   ·have f:w+i+1<n:=by simp at f;omega
    refine (B.le Q).rd (w+i+1) (by omega) (by omega) ?_
    have J:=(ax x).get (i:=w+i+1) (by omega)
    have K:aX .or .u64 (u64.wrap (((af x)[w+i]:Nat):Int)) (u64.wrap (u64.wrap (((af x)[w+i+1]:Nat):Int)*2^32))=(((af x)[w+i]+4294967296*((af x)[w+i+1]?).getD 0:Nat):Int):=by
     have C:((2:Int)^32)=4294967296:=by decide
     rw [C,aH (by omega),aH (x:=(((af x)[w+i+1]:Nat):Int)) (by omega),aH (by omega),Ii _ _ J R,List.getElem?_eq_getElem (by omega),Option.getD_some]
     omega
    rw [K,d,e_,gI]
    refine ⟨by omega,by omega,⟨by omega,by omega⟩,by simp;omega,?_⟩
    obtain ⟨a,L,M,N,O⟩:=S _ rfl
    refine ⟨((i:Int)+1,ay a),?_,?_,?_⟩
    ·(try dsimp only);omega
    ·(try dsimp only);and_intros<;>first|trivial|(rw [←L];simp)
    ·(try dsimp only)
     exact ⟨by omega,by omega,a,rfl,M,N,by rw [A];exact O⟩
   ·have f:n<=w+i+1:=by simp at f;omega
    have K:u64.wrap (((af x)[w+i]:Nat):Int)=(((af x)[w+i]+4294967296*((af x)[w+i+1]?).getD 0:Nat):Int):=by
     rw [aH (by omega),List.getElem?_eq_none (by omega)];simp
    rw [K,d,e_,gI]
    refine ⟨by omega,⟨by omega,by omega⟩,by simp;omega,?_⟩
    obtain ⟨a,L,M,N,O⟩:=S _ rfl
    refine ⟨((i:Int)+1,ay a),?_,?_,?_⟩
    ·(try dsimp only);omega
    ·(try dsimp only);and_intros<;>first|trivial|(rw [←L];simp)
    ·(try dsimp only)
     exact ⟨by omega,by omega,a,rfl,M,N,by rw [A];exact O⟩
  ·have u:i=n-w:=by simp at u;omega
   intro V5 l5 bk hb
   refine (aM (RD.aW hb m (n:=n-w) (c:=n-w) (by omega) (Nat.le_refl _)) (by omega)).mono ?_
   rintro r' V6 l6 ⟨k',rfl,f⟩
   refine ⟨_,_,_,rfl,fun _ V7 l7=>⟨_,_,_,rfl,?_⟩⟩
   rw [ai (by omega),List.drop_of_length_le (l:=af x) (i:=w+i) (by omega)] at b
   have b:val es=val ((af x).drop w) / 2^r:=by
    rw [←b,dG,Nat.zero_div,Nat.mul_zero,Nat.add_zero]
   rw [aJ m,b] at f
   exact f.le l7
end Go.Proofs.Tryz
namespace Go.Big
theorem FL {v1 v2 v' u0 u1 u2 t' B W G ρ T Y:Nat}(hY:Y=(v1*W+v2)*B+v')(hT:T=((u0*W+u1)*W+u2)*B+t')(ht:t'<B)
  (hg:G*v1+ρ=u0*W+u1)(hd:ρ*W+u2<G*v2):T<G*Y:=by
 have a:(u0*W+u1)*W+u2+1<=G*(v1*W+v2):=by
  rw [←hg,Nat.mul_add,Nat.add_mul,←Nat.mul_assoc];omega
 have b:=Nat.mul_le_mul_right B a
 have c:G*(v1*W+v2)*B<=G*Y:=by rw [hY,Nat.mul_assoc];exact Nat.mul_le_mul_left _ (Nat.le_add_right _ _)
 rw [Nat.add_mul,Nat.one_mul] at b
 omega
theorem xT {v1 v2 v' u0 u1 u2 t' B W G ρ T Y:Nat}(hY:Y=(v1*W+v2)*B+v')(hT:T=((u0*W+u1)*W+u2)*B+t')(hv:v'<B)(hv1:1<=v1)(hW:0<W)
  (hg:G*v1+ρ=u0*W+u1)(hd:G*v2<=ρ*W+u2)(hG:G<=W):G*Y<T+Y:=by
 have a:G*(v1*W+v2)<=(u0*W+u1)*W+u2:=by
  rw [←hg,Nat.mul_add,Nat.add_mul,←Nat.mul_assoc];omega
 have d:=Nat.mul_le_mul_right B a
 have e:G*v'<=W*v':=Nat.mul_le_mul_right _ hG
 have f:W*v'<W*B:=Nat.mul_lt_mul_of_pos_left hv hW
 have g:W*B<=v1*W*B:=by
  have:=Nat.mul_le_mul_right (W*B) hv1
  rw [Nat.one_mul,←Nat.mul_assoc] at this;exact this
 have b:(v1*W+v2)*B=v1*W*B+v2*B:=Nat.add_mul _ _ _
 have c:G*Y=G*(v1*W+v2)*B+G*v':=by rw [hY,Nat.mul_add,Nat.mul_assoc]
 rw [c,hY,b]
 omega
theorem xU {v1 v2 v' u0 u1 u2 t' B W T Y:Nat}(hY:Y=(v1*W+v2)*B+v')(hT:T=((u0*W+u1)*W+u2)*B+t')(hv:v'<B)(h:T<W*Y):u0*W+u1<=v1*W+v2:=by
 rcases Nat.lt_or_ge (v1*W+v2) (u0*W+u1) with a|a
 ·exfalso
  have b:(v1*W+v2+1)*W<=(u0*W+u1)*W:=Nat.mul_le_mul_right _ a
  have c:=Nat.mul_le_mul_right B b
  have d:W*Y<=W*((v1*W+v2+1)*B):=by
   rw [hY,Nat.add_mul (v1*W+v2) 1 B,Nat.one_mul];exact Nat.mul_le_mul_left _ (by omega)
  have e:W*((v1*W+v2+1)*B)=(v1*W+v2+1)*W*B:=by grind
  have f:(u0*W+u1)*W*B<=T:=by rw [hT,Nat.add_mul ((u0*W+u1)*W) u2 B];omega
  omega
 ·exact a
theorem Hz {v1 v2 v' u0 u1 u2 t' B W G ρ T Y:Nat}(hY:Y=(v1*W+v2)*B+v')(hT:T=((u0*W+u1)*W+u2)*B+t')(ht:t'<B)(hu:u2<W)
  (hg:G*v1+ρ=u0*W+u1)(hr:ρ<v1):T<(G+1)*Y:=by
 have a:u0*W+u1+1<=(G+1)*v1:=by rw [Nat.add_mul,Nat.one_mul];omega
 have d:=Nat.mul_le_mul_right (W*B) a
 have e:(G+1)*v1*(W*B)<=(G+1)*Y:=by
  rw [hY,Nat.mul_assoc]
  refine Nat.mul_le_mul_left _ ?_
  rw [←Nat.mul_assoc,Nat.add_mul];omega
 have f:((u0*W+u1)*W+u2)*B+t'<(u0*W+u1+1)*(W*B):=by
  have b:(u2+1)*B<=W*B:=Nat.mul_le_mul_right _ hu
  rw [Nat.add_mul,Nat.one_mul] at b
  have c:(u0*W+u1+1)*(W*B)=(u0*W+u1)*W*B+W*B:=by grind
  rw [c,Nat.add_mul ((u0*W+u1)*W) u2 B];omega
 omega
theorem yu {F U c b g d u Y W S:Nat}{x:Int}(h:F+W*(g*Y)=U+W*S*(c+b))(hc:c<4294967296)(hb:b<=1)(hu:u<4294967296)
  (hx:x=((u:Int)-((c+g*d)%4294967296:Nat)-b)%18446744073709551616) :
  0<=x/\0<=x / 9223372036854775808/\x / 9223372036854775808<=1 /\
  F+W*S*(x%4294967296).toNat+W*(g*(Y+S*d))=U+W*S*u+W*(S*4294967296)*((c+g*d) / 4294967296+(x / 9223372036854775808).toNat):=by
 have n:=Nat.mod_add_div (c+g*d) 4294967296
 have hm:(c+g*d)%4294967296<4294967296:=Nat.mod_lt _ (by omega)
 generalize (c+g*d) / 4294967296=q at *
 generalize (c+g*d)%4294967296=m at *
 have key:∃o B:Nat,(x%4294967296).toNat=o/\(x / 9223372036854775808).toNat=B/\u+4294967296*B=o+m+b/\0<=x/\0<=x / 9223372036854775808/\x / 9223372036854775808<=1:=by
  refine ⟨_,_,rfl,rfl,?_,by omega,by omega,by omega⟩
  omega
 obtain ⟨o,B,a,e,p,f,i,j⟩:=key
 refine ⟨f,i,j,?_⟩
 rw [a,e]
 have k:u+4294967296*(B+q)=o+b+(c+g*d):=by omega
 have l:W*S*u+W*(S*4294967296)*(q+B)=W*S*(u+4294967296*(B+q)):=by grind
 rw [Nat.add_assoc U,l,k]
 grind
theorem xk {F U c d u Y W S t:Nat}(h:F+W*S*c=U+W*Y)(ht:t=c+u+d) :
  F+W*S*(t%4294967296)+W*(S*4294967296)*(t / 4294967296)=U+W*S*u+W*(Y+S*d):=by
 have a:W*S*(t%4294967296)+W*(S*4294967296)*(t / 4294967296)=W*S*t:=by
  have:=Nat.mod_add_div t 4294967296
  have e:W*(S*4294967296)*(t / 4294967296)=W*S*(4294967296*(t / 4294967296)):=by grind
  rw [e,←Nat.mul_add,this]
 rw [Nat.add_assoc,a,ht]
 grind
end Go.Big
namespace Go.Proofs.Tryz
open Go.Eng Go.Big
theorem _root_.Go.Eng.RD.Ye {V:View}{p:OA}{n c:Nat}{ds:List Nat}(h:RD V p n c ds){i:Int}{K:Int->Prop}(j:Nat)(hj:i=j)(hn:j<ds.length)
  (hK:K ((ds[j]:Nat):Int)):(p.isSome=true)/\(0<=i/\i<(n:Int))/\∃x:Int,(∃a,addrAdd p j=some a/\V.at a (.int .u32 x))/\K x:=by
 have:=h.rd (K:=K) j hj hn hK
 subst hj
 simpa only [Int.toNat_natCast,Nat.mul_one] using this
theorem Ku {us:List Nat}{rest:List Value}{k:Nat}(h:k<us.length):(ay us++rest)[0+k*1]?=some (.int .u32 (us[k]:Int)):=by
 rw [Nat.zero_add,Nat.mul_one,List.getElem?_append_left (by simpa using h)]
 exact fm h
theorem sR {us:List Nat}{rest:List Value}{k x:Nat}(h:k<us.length):(ay us++rest).set (0+k*1) (.int .u32 (x:Int))=ay (us.set k x)++rest:=by
 rw [Nat.zero_add,Nat.mul_one,List.set_append_left _ _ (by simpa using h),aZ]
theorem Ck {y m t s:Nat}(hm:(af y).length=m)(h0:0<m)(ht:t=(af y)[m-1]'(by omega))(hs:s=32-br t) :
  s<32/\(af (y*2^s)).length=m/\2147483648*4294967296^(m-1)<=y*2^s:=by
 have d:t<4294967296:=by rw [ht];exact (ax y).get _
 have a:t≠0:=by rw [ht];have:=(ir y).last (by omega);simpa [hm] using this
 have f:=oB t
 have g:=oA a
 have b:br t<=32:=iI.2 (by omega)
 have h:0<br t:=by unfold br;rw [if_neg a];omega
 have e:=fI (af y) (m-1) (by omega)
 rw [ab,List.drop_of_length_le (by omega),←ht] at e
 simp only [dG,Nat.mul_zero,Nat.add_zero] at e
 have c:=fq ((ax y).take (m-1))
 rw [List.length_take,Nat.min_eq_left (by omega)] at c
 have i:2^br t*2^s=4294967296:=by rw [←Nat.pow_add,hs,Nat.add_sub_cancel' b]
 have j:2^(br t-1)*2^s=2147483648:=by rw [←Nat.pow_add,show br t-1+s=31 from by omega]
 have k:2147483648*4294967296^(m-1)<=y*2^s:=by
  have:2^(br t-1)*2^s*4294967296^(m-1)<=t*2^s*4294967296^(m-1):=Nat.mul_le_mul_right _ (Nat.mul_le_mul_right _ g)
  rw [j] at this
  have o:t*2^s*4294967296^(m-1)=4294967296^(m-1)*t*2^s:=by grind
  have p:4294967296^(m-1)*t*2^s<=y*2^s:=Nat.mul_le_mul_right _ (by omega)
  omega
 refine ⟨by omega,?_,k⟩
 have l:y*2^s<4294967296^m:=by
  have n:y<4294967296^(m-1)*(t+1):=by rw [Nat.mul_add,Nat.mul_one];omega
  have q:4294967296^(m-1)*(t+1)*2^s<=4294967296^(m-1)*2^br t*2^s:=Nat.mul_le_mul_right _ (Nat.mul_le_mul_left _ f)
  have r:4294967296^(m-1)*2^br t*2^s=4294967296^m:=by
   rw [Nat.mul_assoc,i,←Nat.pow_succ,Nat.succ_eq_add_one,Nat.sub_add_cancel h0]
  have u:y*2^s<4294967296^(m-1)*(t+1)*2^s:=Nat.mul_lt_mul_of_pos_right n (Nat.two_pow_pos s)
  omega
 have b1:=az.2 l
 have b2:m-1<(af (y*2^s)).length:=by
  rw [qQ]
  have:1*4294967296^(m-1)<=2147483648*4294967296^(m-1):=Nat.mul_le_mul_right _ (by omega)
  omega
 omega
theorem TC {us:List Nat}{k:Nat}(h:k+2<us.length)(hz:val (us.drop (k+3))=0) :
  val us=((us[k+2]*4294967296+us[k+1])*4294967296+us[k])*4294967296^k+val (us.take k):=by
 have a:=fI us k (by omega)
 rw [List.drop_eq_getElem_cons (i:=k+1) (by omega),List.drop_eq_getElem_cons (i:=k+1+1) (by omega),aU,aU] at a
 rw [show k+1+1+1=k+3 from rfl,hz] at a
 rw [a]
 grind
theorem TB {us:List Nat}{k:Nat}(h:us.length=k+2):val us=(us[k+1]*4294967296+us[k])*4294967296^k+val (us.take k):=by
 have a:=fI us k (by omega)
 rw [List.drop_eq_getElem_cons (i:=k+1) (by omega),aU,List.drop_of_length_le (by omega),dG] at a
 rw [a]
 grind
theorem aV (us:List Nat)(k:Nat)(h:k<=us.length):val us=val (us.take k)+4294967296^k*val (us.drop k):=by
 conv=>lhs;rw [←List.take_append_drop k us]
 rw [cM,List.length_take,Nat.min_eq_left h]
theorem fW {us:List Nat}{k:Nat}(h:val us<4294967296^k)(hk:k<=us.length):val (us.drop k)=0:=by
 have:=aV us k hk
 rcases Nat.eq_zero_or_pos (val (us.drop k)) with e|e
 ·exact e
 ·have:4294967296^k*1<=4294967296^k*val (us.drop k):=Nat.mul_le_mul_left _ e
  omega
theorem _root_.Go.Eng.RD.QA {V:View}{p:OA}{n c:Nat}{ds:List Nat}(h:RD V p n c ds){i:Int}{K:Int->Prop}(j:Nat)(hj:i=j){d:Nat}(hn:ds[j]?=some d)
  (hK:K (d:Int)):(p.isSome=true)/\(0<=i/\i<(n:Int))/\∃x:Int,(∃a,addrAdd p (i.toNat*1)=some a/\V.at a (.int .u32 x))/\K x:=by
 obtain ⟨b,e⟩:=List.getElem?_eq_some_iff.1 hn
 exact h.rd j hj b (by rw [e];exact hK)
theorem iy {us:List Nat}{rest:List Value}{k d:Nat}(h:us[k]?=some d):(ay us++rest)[0+k*1]?=some (.int .u32 (d:Int)):=by
 obtain ⟨a,b⟩:=List.getElem?_eq_some_iff.1 h
 rw [Ku a,b]
structure AA (us vs:List Nat) (j G i b c:Nat) (fs:List Nat):Prop where
 b1:b<=1
 c1:c<4294967296
 hi:i<=vs.length
 len:fs.length=us.length
 eI:bI fs
 dr:fs.drop (j+i)=us.drop (j+i)
 tk:fs.take j=us.take j
 eq:val (fs.take (j+i))+4294967296^j*(G*val (vs.take i))=val (us.take (j+i))+4294967296^j*4294967296^i*(c+b)
theorem AA.read {us vs:List Nat}{j G i b c:Nat}{fs:List Nat}(h:AA us vs j G i b c fs)(hj:j+i<us.length):∃u,fs[j+i]?=some u/\us[j+i]?=some u:=by
 have:=congrArg (fun l=>l[0]?) h.dr
 simp only [List.getElem?_drop,Nat.add_zero] at this
 exact ⟨us[j+i],by rw [this,List.getElem?_eq_getElem hj],List.getElem?_eq_getElem hj⟩
theorem AA.step {us vs:List Nat}{j G i b c:Nat}{fs:List Nat}(h:AA us vs j G i b c fs)(hG:G<4294967296)(hdv:bI vs)(FR:bI us)(hi:i<vs.length)(hj:j+i<us.length) :
  ∃u d ob od cn cb:Nat,vs[i]?=some d/\fs[j+i]?=some u/\u64.wrap ((c:Int)+u64.wrap ((G:Int)*u64.wrap (d:Int)))=(cn:Int)/\(cn:Int).fdiv (2^32)=(cb:Int) /\
   (u64.wrap (u64.wrap (u64.wrap (u:Int)-aX .and .u64 (cn:Int) 4294967295)-(b:Int))).fdiv (2^63)=(ob:Int) /\
   u32.wrap (u64.wrap (u64.wrap (u64.wrap (u:Int)-aX .and .u64 (cn:Int) 4294967295)-(b:Int)))=(od:Int)/\od<4294967296 /\
   AA us vs j G (i+1) ob cb (fs.set (j+i) od):=by
 obtain ⟨u,g,a⟩:=h.read hj
 obtain ⟨k,l,-,m,n,z,o,p⟩:=h
 have A:=hdv.get (i:=i) hi
 have B:u<4294967296:=FR u (List.mem_of_getElem? a)
 have C:G*vs[i]<=4294967295*4294967295:=Nat.mul_le_mul (by omega) (by omega)
 refine ⟨u,vs[i],?_⟩
 have q:u64.wrap ((c:Int)+u64.wrap ((G:Int)*u64.wrap ((vs[i]:Nat):Int)))=((c+G*vs[i]:Nat):Int):=by
  rw [aH (x:=((vs[i]:Nat):Int)) (by omega),←Int.natCast_mul]
  generalize G*vs[i]=gd at *
  rw [aH (x:=((gd:Nat):Int)) (by omega),aH (by omega)];omega
 have r:=yu (x:=((u:Int)-((c+G*vs[i])%4294967296:Nat)-b)%18446744073709551616) p l k B rfl
 have hand:aX .and .u64 ((c+G*vs[i]:Nat):Int) 4294967295=(((c+G*vs[i])%4294967296:Nat):Int):=Ey _ (by omega)
 have e:u64.wrap (u64.wrap (u64.wrap (u:Int)-(((c+G*vs[i])%4294967296:Nat):Int))-(b:Int))=((u:Int)-((c+G*vs[i])%4294967296:Nat)-b)%18446744073709551616:=by
  rw [aH (x:=(u:Int)) (by omega),qo,qo]
  omega
 have s:(c+G*vs[i]) / 4294967296<4294967296:=by
  generalize G*vs[i]=gd at *;omega
 generalize ((u:Int)-((c+G*vs[i])%4294967296:Nat)-b)%18446744073709551616=xx at *
 obtain ⟨E,F,H,t⟩:=r
 obtain ⟨ob,w⟩:∃ob:Nat,xx / 9223372036854775808=ob:=⟨(xx / 9223372036854775808).toNat,by omega⟩
 obtain ⟨od,f⟩:∃od:Nat,xx%4294967296=od:=⟨(xx%4294967296).toNat,by omega⟩
 rw [w,f] at t
 simp only [Int.toNat_natCast] at t
 have y:od<4294967296:=by omega
 have D:ob<=1:=by omega
 refine ⟨ob,od,c+G*vs[i],(c+G*vs[i]) / 4294967296,List.getElem?_eq_getElem hi,g,q,?_,?_,?_,y,D,s,hi,by simpa using m,n.set _ _ y,?_,?_,?_⟩
 ·rw [e_]
 ·rw [hand,e,IP,w]
 ·rw [hand,e,gI,f]
 ·rw [List.drop_set_of_lt (by omega)]
  have:=congrArg (List.drop 1) z
  simpa [List.drop_drop,Nat.add_comm,Nat.add_assoc,Nat.add_left_comm] using this
 ·rw [List.take_set,List.set_eq_of_length_le (by simp;omega)];exact o
 ·have v:us[j+i]=u:=by rw [List.getElem?_eq_getElem hj] at a;exact Option.some.inj a
  rw [show j+(i+1)=j+i+1 from by omega,aE _ _ _ (by omega),aq us (j+i) (by omega),aq vs i hi,Nat.pow_succ,Nat.pow_add,v]
  exact t
theorem Hh {ks us:List Nat}{j t a:Nat}(h1:ks.take j=us.take j)(hk:j<=ks.length)(hu:j<=us.length)(h:val ks+4294967296^j*a=val us+4294967296^j*t):val (ks.drop j)+a=val (us.drop j)+t:=by
 have b:=aV ks j hk
 have c:=aV us j hu
 rw [h1] at b
 have:4294967296^j*(val (ks.drop j)+a)=4294967296^j*(val (us.drop j)+t):=by rw [Nat.mul_add,Nat.mul_add];omega
 exact Nat.eq_of_mul_eq_mul_left (Nat.pow_pos (by omega)) this
theorem AA.fin {us vs:List Nat}{j G b c:Nat}{fs:List Nat}(h:AA us vs j G vs.length b c fs)(FR:bI us)(hj:j+vs.length<us.length)(hz:val (us.drop (j+vs.length+1))=0) :
  ∃u ob od:Nat,fs[j+vs.length]?=some u /\
   (u64.wrap (u64.wrap (u64.wrap (u:Int)-(c:Int))-(b:Int))).fdiv (2^63)=(ob:Int) /\
   u32.wrap (u64.wrap (u64.wrap (u64.wrap (u:Int)-(c:Int))-(b:Int)))=(od:Int)/\od<4294967296/\ob<=1 /\
   bI (fs.set (j+vs.length) od)/\(fs.set (j+vs.length) od).length=us.length/\(fs.set (j+vs.length) od).take j=us.take j/\val ((fs.set (j+vs.length) od).drop (j+vs.length+1))=0 /\
   val ((fs.set (j+vs.length) od).drop j)+G*val vs=val (us.drop j)+4294967296^(vs.length+1)*ob:=by
 obtain ⟨u,q,f⟩:=h.read hj
 obtain ⟨r,i,-,s,t,D,v,l⟩:=h
 have E:u<4294967296:=FR u (List.mem_of_getElem? f)
 have w:us[j+vs.length]=u:=by rw [List.getElem?_eq_getElem hj] at f;exact Option.some.inj f
 rw [List.take_length] at l
 have k:=yu (g:=G) (d:=0) (Y:=val vs) (x:=((u:Int)-((c+G*0)%4294967296:Nat)-b)%18446744073709551616) l i r E rfl
 simp only [Nat.mul_zero,Nat.add_zero] at k
 rw [Nat.mod_eq_of_lt i,Nat.div_eq_of_lt i,Nat.zero_add] at k
 have m:u64.wrap (u64.wrap (u64.wrap (u:Int)-(c:Int))-(b:Int))=((u:Int)-(c:Int)-b)%18446744073709551616:=by
  rw [aH (x:=(u:Int)) (by omega),qo,qo]
  omega
 generalize ((u:Int)-(c:Int)-b)%18446744073709551616=xx at *
 obtain ⟨K,L,M,y⟩:=k
 obtain ⟨ob,B⟩:∃ob:Nat,xx / 9223372036854775808=ob:=⟨(xx / 9223372036854775808).toNat,by omega⟩
 obtain ⟨od,n⟩:∃od:Nat,xx%4294967296=od:=⟨(xx%4294967296).toNat,by omega⟩
 rw [B,n] at y
 simp only [Int.toNat_natCast] at y
 have C:od<4294967296:=by omega
 have F:ob<=1:=by omega
 obtain ⟨e,a⟩:∃e,e=fs.set (j+vs.length) od:=⟨_,rfl⟩
 refine ⟨u,ob,od,q,by rw [m,IP,B],by rw [m,gI,n],C,F,?_⟩
 rw [←a]
 have z:e.length=us.length:=by rw [a];simpa using s
 have A:bI e:=by rw [a];exact t.set _ _ C
 have o:e.take j=us.take j:=by rw [a,List.take_set,List.set_eq_of_length_le (by simp;omega)];exact v
 have p:e.drop (j+vs.length+1)=us.drop (j+vs.length+1):=by
  rw [a,List.drop_set_of_lt (by omega)]
  have:=congrArg (List.drop 1) D
  simpa [List.drop_drop,Nat.add_comm,Nat.add_assoc,Nat.add_left_comm] using this
 refine ⟨A,z,o,by rw [p];exact hz,Hh o (by omega) (by omega) ?_⟩
 have H:=aV e (j+vs.length+1) (by omega)
 have I:=aV us (j+vs.length+1) (by omega)
 have N:val (e.take (j+vs.length+1))=val (fs.take (j+vs.length))+4294967296^j*4294967296^vs.length*od:=by rw [a,aE _ _ _ (by omega),Nat.pow_add]
 have O:val (us.take (j+vs.length+1))=val (us.take (j+vs.length))+4294967296^j*4294967296^vs.length*u:=by rw [aq us (j+vs.length) (by omega),Nat.pow_add,w]
 rw [p,hz,Nat.mul_zero,Nat.add_zero] at H
 rw [hz,Nat.mul_zero,Nat.add_zero] at I
 have J:4294967296^j*(4294967296^vs.length*4294967296)*ob=4294967296^j*(4294967296^(vs.length+1)*ob):=by rw [Nat.pow_succ];grind
 rw [J] at y
 omega
structure Ay (ks vs:List Nat) (j i c:Nat) (gs:List Nat):Prop where
 c1:c<=1
 hi:i<=vs.length
 len:gs.length=ks.length
 eI:bI gs
 dr:gs.drop (j+i)=ks.drop (j+i)
 tk:gs.take j=ks.take j
 eq:val (gs.take (j+i))+4294967296^j*4294967296^i*c=val (ks.take (j+i))+4294967296^j*val (vs.take i)
theorem Ay.read {ks vs:List Nat}{j i c:Nat}{gs:List Nat}(h:Ay ks vs j i c gs)(hj:j+i<ks.length):∃u,gs[j+i]?=some u/\ks[j+i]?=some u:=by
 have:=congrArg (fun l=>l[0]?) h.dr
 simp only [List.getElem?_drop,Nat.add_zero] at this
 exact ⟨ks[j+i],by rw [this,List.getElem?_eq_getElem hj],List.getElem?_eq_getElem hj⟩
theorem Ay.step {ks vs:List Nat}{j i c:Nat}{gs:List Nat}(h:Ay ks vs j i c gs)(hdv:bI vs)(hdk:bI ks)(hi:i<vs.length)(hj:j+i<ks.length) :
  ∃u d od cn cb:Nat,vs[i]?=some d/\gs[j+i]?=some u/\u64.wrap ((c:Int)+u64.wrap (u64.wrap (u:Int)+u64.wrap (d:Int)))=(cn:Int)/\(cn:Int).fdiv (2^32)=(cb:Int) /\
   u32.wrap (cn:Int)=(od:Int)/\Ay ks vs j (i+1) cb (gs.set (j+i) od):=by
 obtain ⟨u,b,a⟩:=h.read hj
 obtain ⟨o,-,e,f,p,g,k⟩:=h
 have q:=hdv.get (i:=i) hi
 have s:u<4294967296:=hdk u (List.mem_of_getElem? a)
 have l:ks[j+i]=u:=by rw [List.getElem?_eq_getElem hj] at a;exact Option.some.inj a
 obtain ⟨t5,r⟩:∃t5,t5=c+u+vs[i]:=⟨_,rfl⟩
 have m:=xk k r
 have n:u64.wrap ((c:Int)+u64.wrap (u64.wrap (u:Int)+u64.wrap ((vs[i]:Nat):Int)))=(t5:Int):=by
  rw [aH (x:=((vs[i]:Nat):Int)) (by omega),aH (x:=(u:Int)) (by omega),aH (x:=(u:Int)+_) (by omega),aH (by omega)]
  omega
 refine ⟨u,vs[i],t5%4294967296,t5,t5 / 4294967296,List.getElem?_eq_getElem hi,b,n,by rw [e_],by rw [gI];omega,by omega,hi,by simpa using e,f.set _ _ (by omega),?_,?_,?_⟩
 ·rw [List.drop_set_of_lt (by omega)]
  have:=congrArg (List.drop 1) p
  simpa [List.drop_drop,Nat.add_comm,Nat.add_assoc,Nat.add_left_comm] using this
 ·rw [List.take_set,List.set_eq_of_length_le (by simp;omega)];exact g
 ·rw [show j+(i+1)=j+i+1 from by omega,aE _ _ _ (by omega),aq ks (j+i) (by omega),aq vs i hi,Nat.pow_succ,Nat.pow_add,l]
  exact m
theorem Ay.fin {ks vs:List Nat}{j c:Nat}{gs:List Nat}(h:Ay ks vs j vs.length c gs)(hdk:bI ks)(hj:j+vs.length<ks.length)(hz:val (ks.drop (j+vs.length+1))=0) :
  ∃u od kp:Nat,gs[j+vs.length]?=some u/\u32.wrap ((u:Int)+u32.wrap (c:Int))=(od:Int)/\kp<=1 /\
   bI (gs.set (j+vs.length) od)/\(gs.set (j+vs.length) od).length=ks.length/\(gs.set (j+vs.length) od).take j=ks.take j/\val ((gs.set (j+vs.length) od).drop (j+vs.length+1))=0 /\
   val ((gs.set (j+vs.length) od).drop j)+4294967296^(vs.length+1)*kp=val (ks.drop j)+val vs:=by
 obtain ⟨u,l,b⟩:=h.read hj
 obtain ⟨v,-,m,n,w,o,f⟩:=h
 have C:u<4294967296:=hdk u (List.mem_of_getElem? b)
 have p:ks[j+vs.length]=u:=by rw [List.getElem?_eq_getElem hj] at b;exact Option.some.inj b
 rw [List.take_length] at f
 have g:=xk (d:=0) (u:=u) (Y:=val vs) (t:=c+u) f (by omega)
 simp only [Nat.mul_zero,Nat.add_zero] at g
 have y:(c+u)%4294967296<4294967296:=by omega
 have q:(c+u) / 4294967296<=1:=by omega
 have hw:u32.wrap ((u:Int)+u32.wrap (c:Int))=(((c+u)%4294967296:Nat):Int):=by
  rw [oY (x:=(c:Int)) (by omega),gI];omega
 generalize (c+u)%4294967296=od at *
 generalize (c+u) / 4294967296=kp at *
 obtain ⟨a,e⟩:∃a,a=gs.set (j+vs.length) od:=⟨_,rfl⟩
 refine ⟨u,od,kp,l,hw,q,?_⟩
 rw [←e]
 have r:a.length=ks.length:=by rw [e];simpa using m
 have s:bI a:=by rw [e];exact n.set _ _ y
 have i:a.take j=ks.take j:=by rw [e,List.take_set,List.set_eq_of_length_le (by simp;omega)];exact o
 have k:a.drop (j+vs.length+1)=ks.drop (j+vs.length+1):=by
  rw [e,List.drop_set_of_lt (by omega)]
  have:=congrArg (List.drop 1) w
  simpa [List.drop_drop,Nat.add_comm,Nat.add_assoc,Nat.add_left_comm] using this
 refine ⟨s,r,i,by rw [k];exact hz,Hh i (by omega) (by omega) ?_⟩
 have z:=aV a (j+vs.length+1) (by omega)
 have A:=aV ks (j+vs.length+1) (by omega)
 have D:val (a.take (j+vs.length+1))=val (gs.take (j+vs.length))+4294967296^j*4294967296^vs.length*od:=by rw [e,aE _ _ _ (by omega),Nat.pow_add]
 have E:val (ks.take (j+vs.length+1))=val (ks.take (j+vs.length))+4294967296^j*4294967296^vs.length*u:=by rw [aq ks (j+vs.length) (by omega),Nat.pow_add,p]
 rw [k,hz,Nat.mul_zero,Nat.add_zero] at z
 rw [hz,Nat.mul_zero,Nat.add_zero] at A
 have B:4294967296^j*(4294967296^vs.length*4294967296)*kp=4294967296^j*(4294967296^(vs.length+1)*kp):=by rw [Nat.pow_succ];grind
 rw [B] at g
 omega
structure GK (v1 v2 v' u0 u1 u2 t' B T Y:Nat):Prop where
 hY:Y=(v1*4294967296+v2)*B+v'
 hT:T=((u0*4294967296+u1)*4294967296+u2)*B+t'
 pZ:v'<B
 Bu:t'<B
 TF:2147483648<=v1
 VG:v1<4294967296
 TG:v2<4294967296
 Yi:u0<4294967296
 Yj:u1<4294967296
 VF:u2<4294967296
 lt:T<4294967296*Y
structure GI (v1 f T Y G ρ:Nat):Prop where
 r:ρ<4294967296
 g:G<=4294967297
 eq:G*v1+ρ=f
 lt:T<(G+1)*Y
structure GF (T Y G:Nat):Prop where
 g:G<4294967296
 lt:T<(G+1)*Y
 gt:G*Y<T+Y
section
variable {v1 v2 v' u0 u1 u2 t' B T Y G ρ:Nat}
theorem GK.start (h:GK v1 v2 v' u0 u1 u2 t' B T Y):GI v1 (u0*4294967296+u1) T Y ((u0*4294967296+u1) / v1) ((u0*4294967296+u1)%v1):=by
 have c:=xU h.hY h.hT h.pZ h.lt
 have d:=h.TF
 have e:=h.VG
 have f:=h.TG
 have a:=Nat.div_add_mod (u0*4294967296+u1) v1
 have b:=Nat.mod_lt (u0*4294967296+u1) (show 0<v1 by omega)
 refine ⟨by omega,?_,by rw [Nat.mul_comm];exact a,?_⟩
 ·have:(u0*4294967296+u1) / v1<4294967298:=by
   rw [Nat.div_lt_iff_lt_mul (by omega)];omega
  omega
 ·rw [Nat.mul_comm] at a
  exact Hz h.hY h.hT h.Bu h.VF a b
theorem GK.KZ (h:GK v1 v2 v' u0 u1 u2 t' B T Y)(hG:4294967296<=G):T<G*Y:=Nat.lt_of_lt_of_le h.lt (Nat.mul_le_mul_right _ hG)
theorem GK.dec (h:GK v1 v2 v' u0 u1 u2 t' B T Y)(hi:GI v1 (u0*4294967296+u1) T Y G ρ)(hd:ρ*4294967296+u2<G*v2):T<G*Y:=FL h.hY h.hT h.Bu hi.eq hd
theorem GK.last (h:GK v1 v2 v' u0 u1 u2 t' B T Y)(hi:GI v1 (u0*4294967296+u1) T Y G ρ)(hG:G<4294967296)(hd:G*v2<=ρ*4294967296+u2):GF T Y G:=
 ⟨hG,hi.lt,xT h.hY h.hT h.pZ (by have:=h.TF;omega) (by omega) hi.eq hd (by omega)⟩
theorem GK.down (h:GK v1 v2 v' u0 u1 u2 t' B T Y)(hi:GI v1 (u0*4294967296+u1) T Y G ρ)(h1:T<G*Y):1<=G/\(G-1)*v1+(ρ+v1)=u0*4294967296+u1/\T<(G-1+1)*Y:=by
 have a:1<=G:=by
  rcases Nat.eq_zero_or_pos G with b|b
  ·subst b;omega
  ·exact b
 have:=hi.eq
 refine ⟨a,?_,by rw [Nat.sub_add_cancel a];exact h1⟩
 have:G*v1=(G-1)*v1+v1:=by conv=>lhs;rw [←Nat.sub_add_cancel a,Nat.add_mul,Nat.one_mul]
 omega
theorem GK.K1 (h:GK v1 v2 v' u0 u1 u2 t' B T Y)(hi:GI v1 (u0*4294967296+u1) T Y G ρ)(h1:T<G*Y)(h2:4294967296<=ρ+v1):1<=G/\GF T Y (G-1):=by
 obtain ⟨a,e,b⟩:=h.down hi h1
 have d:=xU h.hY h.hT h.pZ h.lt
 have i:=h.TG
 have j:=h.TF
 have k:=hi.g
 have f:G-1<4294967296:=by
  rcases Nat.lt_or_ge (G-1) 4294967296 with c|c
  ·exact c
  ·have:=Nat.mul_le_mul_right v1 c
   omega
 refine ⟨a,f,b,xT h.hY h.hT h.pZ (by omega) (by omega) e ?_ (by omega)⟩
 have l:(G-1)*v2<=4294967295*4294967295:=Nat.mul_le_mul (by omega) (by omega)
 omega
theorem GK.K3 (h:GK v1 v2 v' u0 u1 u2 t' B T Y)(hi:GI v1 (u0*4294967296+u1) T Y G ρ)(h1:T<G*Y)(h2:ρ+v1<4294967296):1<=G/\GI v1 (u0*4294967296+u1) T Y (G-1) (ρ+v1):=by
 obtain ⟨a,c,b⟩:=h.down hi h1
 have d:=hi.g
 exact ⟨a,h2,by omega,c,b⟩
theorem GK.words (h:GK v1 v2 v' u0 u1 u2 t' B T Y) :
  aX .or .u64 (u64.wrap (u64.wrap (u0:Int)*2^32)) (u64.wrap (u1:Int))=((u0*4294967296+u1:Nat):Int) /\
  u64.wrap (((u0*4294967296+u1:Nat):Int).tdiv (v1:Int))=(((u0*4294967296+u1) / v1:Nat):Int) /\
  ((u0*4294967296+u1:Nat):Int).tmod (v1:Int)=(((u0*4294967296+u1)%v1:Nat):Int):=by
 have a:=h.Yi
 have b:=h.Yj
 have c:((2:Int)^32)=4294967296:=by decide
 refine ⟨?_,?_,?_⟩
 ·rw [c,aH (x:=(u0:Int)) (by omega),aH (x:=(u1:Int)) (by omega),aH (by omega),B1 _ _ a b];omega
 ·rw [Int.tdiv_eq_ediv_of_nonneg (by omega),←Int.natCast_ediv]
  have d:(u0*4294967296+u1) / v1<=u0*4294967296+u1:=Nat.div_le_self _ _
  generalize (u0*4294967296+u1) / v1=qq at *
  rw [aH (by omega)]
 ·rw [Int.tmod_eq_emod_of_nonneg (by omega),←Int.natCast_emod]
theorem GK.Nu (h:GK v1 v2 v' u0 u1 u2 t' B T Y)(hi:GI v1 (u0*4294967296+u1) T Y G ρ) :
  u64.wrap ((G:Int)*(v2:Int))=((G*v2:Nat):Int)/\aX .or .u64 (u64.wrap ((ρ:Int)*2^32)) (u64.wrap (u2:Int))=((ρ*4294967296+u2:Nat):Int) /\
  u64.wrap ((ρ:Int)+v1)=((ρ+v1:Nat):Int)/\(1<=G->u64.wrap ((G:Int)-1)=((G-1:Nat):Int)):=by
 have a:=h.VF
 have b:=hi.r
 have c:=hi.g
 have f:=h.TG
 have d:=h.VG
 have e:((2:Int)^32)=4294967296:=by decide
 refine ⟨?_,?_,?_,?_⟩
 ·have d:G*v2<=4294967297*4294967295:=Nat.mul_le_mul c (by omega)
  rw [←Int.natCast_mul,aH (by omega)]
 ·rw [e,aH (x:=(ρ:Int)*4294967296) (by omega),aH (by omega),B1 _ _ b a];omega
 ·rw [aH (by omega)];omega
 ·intro h;rw [aH (by omega)];omega
end
end Go.Proofs.Tryz
namespace Go.Proofs.Tryz
open Go.Eng Go.Big
structure OI (X Y n n8:Nat) (j:Int) (us qs:List Nat):Prop where
 j0:-1<=j
 j1:j<(n+1-n8:Nat)
 ul:us.length=n+1
 ud:bI us
 ql:qs.length=n+1-n8
 qd:bI qs
 eq:X=val us+Y*(4294967296^(j+1).toNat*val (qs.drop (j+1).toNat))
 lt:val (us.drop (j+1).toNat)<Y
structure DK (Y n8 k v1 v2:Nat):Prop where
 Sc:n8=k+2
 len:(af Y).length=n8
 g1:(af Y)[k+1]?=some v1
 g2:(af Y)[k]?=some v2
 l1:2147483648<=v1
 u1:v1<4294967296
 u2:v2<4294967296
 eq:Y=(v1*4294967296+v2)*4294967296^k+val ((af Y).take k)
 lt:val ((af Y).take k)<4294967296^k
 top:Y<4294967296^n8
theorem DK.of {Y n8:Nat}(hl:(af Y).length=n8)(h2:2<=n8)(ht:2147483648*4294967296^(n8-1)<=Y):∃k v1 v2,DK Y n8 k v1 v2:=by
 obtain ⟨k,e⟩:∃k,n8=k+2:=⟨n8-2,by omega⟩
 have a:=TB (us:=af Y) (k:=k) (by omega)
 rw [ab] at a
 have c:=fq ((ax Y).take k)
 rw [List.length_take,Nat.min_eq_left (by omega)] at c
 have f:=(ax Y).get (i:=k+1) (by omega)
 have g:=(ax Y).get (i:=k) (by omega)
 have b:2147483648<=(af Y)[k+1]:=by
  rcases Nat.lt_or_ge (af Y)[k+1] 2147483648 with d|d
  ·exfalso
   have h:((af Y)[k+1]*4294967296+(af Y)[k])+1<=2147483648*4294967296:=by omega
   have j:=Nat.mul_le_mul_right (4294967296^k) h
   rw [Nat.add_mul,Nat.one_mul] at j
   have l:2147483648*4294967296^(k+1)=2147483648*4294967296*4294967296^k:=by rw [Nat.pow_succ];grind
   rw [show n8-1=k+1 from by omega,l] at ht
   omega
  ·exact d
 exact ⟨k,_,_,e,hl,List.getElem?_eq_getElem _,List.getElem?_eq_getElem _,b,f,g,a,c,by rw [←hl,←az];exact Nat.le_refl _⟩
theorem OI.start {x X Y n n8 s:Nat}(hX:X=x*2^s)(hx:(af x).length=n)(hs:s<32)(Sc:2<=n8)(hn:n8<=n)(hY:2147483648*4294967296^(n8-1)<=Y)(Zj:(af X).length<=n+1) :
  OI X Y n n8 (((n+1-n8:Nat):Int)-1) ((af X++[0,0]).take (n+1)) (List.replicate (n+1-n8) 0):=by
 have h:n<=(af X).length:=by rw [←hx,hX];exact aB (Nat.le_mul_of_pos_right _ (Nat.two_pow_pos s))
 have g:((af X++[0,0]).take (n+1)).length=n+1:=by simp;omega
 have a:val ((af X++[0,0]).take (n+1))=X:=by
  have b:val (af X++[0,0])=X:=by rw [cM,ab];simp
  have c:=aV (af X++[0,0]) (n+1) (by simp;omega)
  have d:val ((af X++[0,0]).drop (n+1))=0:=by
   refine fW ?_ (by simp;omega)
   rw [b]
   exact az.1 (by omega)
  rw [d,Nat.mul_zero,Nat.add_zero,b] at c
  exact c.symm
 have e:(((n+1-n8:Nat):Int)-1+1).toNat=n+1-n8:=by omega
 refine ⟨by omega,by omega,g,(bI.append.2 ⟨ax X,by simp [bI]⟩).take _,by simp,bI.rep _,?_,?_⟩
 ·rw [e,List.drop_of_length_le (by simp),dG,Nat.mul_zero,Nat.mul_zero,Nat.add_zero,a]
 ·rw [e]
  have b:=aV ((af X++[0,0]).take (n+1)) (n+1-n8) (by omega)
  rw [a] at b
  have f:X<4294967296^n*2^s:=by rw [hX];exact Nat.mul_lt_mul_of_pos_right (by rw [←hx];exact az.1 (Nat.le_refl _)) (Nat.two_pow_pos s)
  have i:2^s<=2^31:=Nat.pow_le_pow_right (by omega) (by omega)
  have c:4294967296^n*2^s<=4294967296^(n+1-n8)*Y:=by
   have b1:4294967296^n=4294967296^(n+1-n8)*4294967296^(n8-1):=by rw [←Nat.pow_add];congr 1;omega
   rw [b1,Nat.mul_assoc]
   refine Nat.mul_le_mul_left _ ?_
   have b2:2^s*4294967296^(n8-1)<=2147483648*4294967296^(n8-1):=Nat.mul_le_mul_right _ (by omega)
   rw [Nat.mul_comm]
   omega
  have d:4294967296^(n+1-n8)*val (((af X++[0,0]).take (n+1)).drop (n+1-n8))<4294967296^(n+1-n8)*Y:=by omega
  exact Nat.lt_of_mul_lt_mul_left d
theorem OI.body {X Y n n8 k v1 v2 j:Nat}{us qs:List Nat}(h:OI X Y n n8 (j:Int) us qs)(hd:DK Y n8 k v1 v2)(hjn:j+n8<=n) :
  val (us.drop (j+n8+1))=0/\∃u0 u1 u2 t',us[j+n8]?=some u0/\us[j+n8-1]?=some u1/\us[j+n8-2]?=some u2/\GK v1 v2 (val ((af Y).take k)) u0 u1 u2 t' (4294967296^k) (val (us.drop j)) Y:=by
 obtain ⟨-,-,l,a,m,o,e,f⟩:=h
 have b:((j:Int)+1).toNat=j+1:=by omega
 rw [b] at e f
 have p:=hd.Sc
 have q:=hd.top
 have g:val (us.drop j)=us[j]+4294967296*val (us.drop (j+1)):=by rw [List.drop_eq_getElem_cons (by omega),aU]
 have r:=a.get (i:=j) (by omega)
 have c:val (us.drop (j+n8+1))=0:=by
  have:=fW (us:=us.drop (j+1)) (k:=n8) (by omega) (by simp;omega)
  rw [List.drop_drop] at this
  rw [show j+n8+1=j+1+n8 from by omega];exact this
 have d:=fq ((a.drop j).take k)
 rw [List.length_take,List.length_drop,Nat.min_eq_left (by omega)] at d
 refine ⟨c,us[j+n8],us[j+n8-1],us[j+n8-2],val ((us.drop j).take k),List.getElem?_eq_getElem _,List.getElem?_eq_getElem _,List.getElem?_eq_getElem _,
  hd.eq,?_,hd.lt,d,hd.l1,hd.u1,hd.u2,a.get _,a.get _,a.get _,by omega⟩
 have:=TC (us:=us.drop j) (k:=k) (by simp;omega) (by rw [List.drop_drop,show j+(k+3)=j+n8+1 from by omega];exact c)
 simp only [List.getElem_drop] at this
 rw [this]
 congr<;>omega
theorem OI.next {X Y n n8 j H:Nat}{us qs hs:List Nat}(h:OI X Y n n8 (j:Int) us qs)(hjn:j+n8<=n)(h1:hs.length=us.length)(Xu:bI hs)(h2:hs.take j=us.take j)(h3:val (hs.drop j)+H*Y=val (us.drop j))(h4:val (hs.drop j)<Y)(hH:H<4294967296) :
  OI X Y n n8 ((j:Int)-1) hs (qs.set j H):=by
 obtain ⟨-,f,k,m,g,i,b,o⟩:=h
 have a:((j:Int)+1).toNat=j+1:=by omega
 have c:((j:Int)-1+1).toNat=j:=by omega
 rw [a] at b
 refine ⟨by omega,by omega,by omega,Xu,by simpa using g,i.set _ _ hH,?_,by rw [c];exact h4⟩
 have d:=aV hs j (by omega)
 have e:=aV us j (by omega)
 rw [h2] at d
 rw [←h3] at e
 rw [c,List.drop_eq_getElem_cons (l:=qs.set j H) (by simp;omega),List.getElem_set_self,List.drop_set_of_lt (by omega),aU,b,d,e,Nat.pow_succ]
 grind
theorem OI.done {x y X Y n n8 s:Nat}{us qs:List Nat}(h:OI X Y n n8 (-1) us qs)(hX:X=x*2^s)(hY:Y=y*2^s)(hn:n8<=n+1)(hYl:Y<4294967296^n8):val qs=x / y/\val (us.take n8) / 2^s=x%y:=by
 obtain ⟨-,-,f,g,i,j,a,b⟩:=h
 have a:X=val us+Y*val qs:=by simpa using a
 have b:val us<Y:=by simpa using b
 have e:0<Y:=by omega
 have c:=fW (us:=us) (k:=n8) (by omega) (by omega)
 have d:val (us.take n8)=val us:=by
  have:=aV us n8 (by omega)
  rw [c,Nat.mul_zero,Nat.add_zero] at this
  exact this.symm
 constructor
 ·rw [←Nat.mul_div_mul_right x y (Nat.two_pow_pos s),←hX,←hY,a,Nat.add_mul_div_left _ _ e,Nat.div_eq_of_lt b,Nat.zero_add]
 ·have:x*2^s%(y*2^s)=val us:=by
   rw [←hX,←hY,a,Nat.add_mul_mod_self_left,Nat.mod_eq_of_lt b]
  rw [Nat.mul_mod_mul_right] at this
  rw [d,←this,Nat.mul_div_cancel _ (Nat.two_pow_pos s)]
set_option maxHeartbeats 8000000 in
theorem Dd {V:View}{p q:OA}{n c m e:Nat}{x y:Nat}(ha:RN V p n c x)(hb:RN V q m e y)(hn:n<=1099511627776)(hm2:2<=m)(hle:y<=x) :
  Acts prog 225 #[.slice p n c,.slice q m e] V fun r V'=>∃p1 n1 c1 p2 n2 c2,r=.tuple #[.slice p1 n1 c1,.slice p2 n2 c2]/\RN V' p1 n1 c1 (x / y)/\RN V' p2 n2 c2 (x%y):=by
 have l:=ha.len
 have a0:=hb.len
 have b6:m<=n:=by rw [l,a0];exact aB hle
 refine CH p n c q m e V _ ?_
 simp (disch:=omega) only [i64w]
 refine hb.rd (m-1) (by omega) (by omega) fun V1 l1=>(fy _ ((ax y).get (by omega))).mono ?_
 rintro r V2 l2 rfl
 refine ⟨_,rfl,?_⟩
 obtain ⟨t,E⟩:∃t,t=(af y)[m-1]'(by omega):=⟨_,rfl⟩
 rw [←E]
 have b7:br t<=32:=iI.2 (by rw [E];exact (ax y).get _)
 obtain ⟨s,hs⟩:∃s,s=32-br t:=⟨_,rfl⟩
 have es:(32-(br t:Int))=(s:Int):=by omega
 obtain ⟨JP,o,So⟩:=Ck a0.symm (by omega) E hs
 rw [es,aH (by omega)]
 clear es b7
 intro V3 l3
 refine (xH (ha.le (l1.trans (l2.trans l3))) (by omega) s (by omega)).mono ?_
 rintro r V4 l4 ⟨p4,n4,c4,rfl,h4,F⟩
 rw [ab] at h4 F
 have b8:x≠0:=by
  intro w;subst w
  rw [xL] at l
  simp at l;omega
 have F:c4=n+1:=by
  rcases F with w|w
  ·exact absurd w b8
  ·rw [w,←l,Nat.div_eq_of_lt JP]
 have a3:=h4.len
 have a4:x*2^s<4294967296^n*2^s:=Nat.mul_lt_mul_of_pos_right (by rw [l];exact az.1 (Nat.le_refl _)) (Nat.two_pow_pos s)
 have UX:2^s<=2^31:=Nat.pow_le_pow_right (by omega) (by omega)
 have XE:n<=n4/\n4<=n+1:=by
  constructor
  ·rw [a3,l];exact aB (Nat.le_mul_of_pos_right _ (Nat.two_pow_pos s))
  ·rw [a3,az,Nat.pow_succ]
   have:4294967296^n*2^s<=4294967296^n*4294967296:=Nat.mul_le_mul_left _ (by omega)
   omega
 refine ⟨_,_,_,rfl,ay (af (x*2^s)),h4.sl,by simp;omega,h4.cap,h4.F2,by omega,by omega,rfl,by simp [Value.oneCell'],?_⟩
 intro sp c7 Xs Xt
 refine ⟨⟨by omega,by omega⟩,fun V5 l5=>(xH (hb.le (l1.trans (l2.trans (l3.trans (l4.trans l5))))) (by omega) s (by omega)).mono ?_⟩
 rintro r V6 l6 ⟨p8,f,c8,rfl,Z,-⟩
 rw [ab] at Z
 have Va:=Z.len
 rw [o] at Va
 subst Va
 refine ⟨_,_,_,rfl,?_⟩
 obtain ⟨k,v1,v2,I⟩:=DK.of o hm2 So
 have hk:=I.Sc
 have d6:=I.l1
 have XO:=I.u1
 have XP:=I.u2
 have Xl:=OI.start (Y:=y*2^s) rfl l.symm JP hm2 b6 So (by omega)
 have w6:i64.wrap ((f:Int)-1)=(f:Int)-1:=i64w (by omega)
 have w7:i64.wrap ((f:Int)-2)=(f:Int)-2:=i64w (by omega)
 simp only [w6,w7]
 refine Z.QA (k+1) (by omega) I.g1 (Z.QA k (by omega) I.g2 ?_)
 have b9:((n:Int)+1).toNat=n+1:=by omega
 have c0:(((n+1:Nat):Int)-(f:Int)).toNat=n+1-f:=by omega
 have w1:i64.wrap ((n:Int)+1)=(n:Int)+1:=i64w (by omega)
 have w2:u64.wrap (v1:Int)=v1:=aH (by omega)
 have w3:u64.wrap (v2:Int)=v2:=aH (by omega)
 have w4:i64.wrap (((n+1:Nat):Int)-(f:Int))=((n+1:Nat):Int)-(f:Int):=i64w (by omega)
 have w5:i64.wrap (((n+1-f:Nat):Int)-1)=((n+1-f:Nat):Int)-1:=i64w (by omega)
 simp only [b9,w2,w3,w4,c0,w5,cq]
 obtain ⟨B,a5⟩:∃B,B=ay ((af (x*2^s)++[0,0]).drop (n+1))++sp:=⟨_,rfl⟩
 have N:ay (af (x*2^s))++([.int .u32 0,.int .u32 0]:List Value)++sp=ay ((af (x*2^s)++[0,0]).take (n+1))++B:=by
  rw [a5,←List.append_assoc,←rE,List.take_append_drop,rE];rfl
 rw [N]
 clear a5 N So a4 UX F hs E
 generalize hX:x*2^s=X at *
 generalize hY:y*2^s=Y at *
 refine ⟨by omega,by omega,by omega,fun z V'=>∃us D:List Nat,z.2.1=ay us++B/\z.2.2=ay D/\OI X Y n f z.1 us D,fun z=>(z.1+1).toNat,
  ⟨(((n+1-f:Nat):Int)-1,ay ((af X++[0,0]).take (n+1))++B,ay (List.replicate (n+1-f) 0)),?_,_,_,rfl,rfl,Xl⟩,?_⟩
 ·(try dsimp only);and_intros<;>first|exact True.intro|rfl
 rintro ⟨j,row,Yb⟩ V7 l7 ⟨us,D,rfl,rfl,A⟩
 dsimp only at A ⊢
 have d7:=A.j0
 have d8:=A.j1
 have OU:=A.ul
 have Mq:=A.ql
 refine ⟨by trivial,fun K=>?_,fun K=>?_⟩
 ·have K:0<=j:=by simpa using K
  obtain ⟨j,rfl⟩:=Int.eq_ofNat_of_zero_le K
  have Q:j+f<=n:=by omega
  obtain ⟨hz,u0,u1,u2,t',a6,a7,a8,C⟩:=A.body I Q
  obtain ⟨eb,Ur,Us⟩:=C.words
  have w8:i64.wrap ((j:Int)+f)=((j+f:Nat):Int):=by rw [i64w (by omega)];omega
  have w9:i64.wrap (((j+f:Nat):Int)-1)=((j+f-1:Nat):Int):=by rw [i64w (by omega)];omega
  have TJ:i64.wrap (((j+f:Nat):Int)-2)=((j+f-2:Nat):Int):=by rw [i64w (by omega)];omega
  have U_:i64.wrap ((j:Int)-1)=(j:Int)-1:=i64w (by omega)
  simp only [w8,w9,TJ,U_,Int.toNat_natCast]
  refine ⟨⟨by omega,by omega⟩,_,iy a6,by omega,⟨by omega,by omega⟩,_,iy a7,by omega,by omega,?_⟩
  rw [eb,Ur,Us]
  clear eb Ur Us
  refine ⟨fun g V'=>∃G:Nat,g=(G:Int)/\GF (val (us.drop j)) Y G,
   ⟨fun z V'=>∃G ρ:Nat,z=((G:Int),(ρ:Int))/\GI v1 (u0*4294967296+u1) (val (us.drop j)) Y G ρ,fun z=>z.1.toNat,
    ⟨((((u0*4294967296+u1) / v1:Nat):Int),(((u0*4294967296+u1)%v1:Nat):Int)),by (try dsimp only);and_intros<;>first|exact True.intro|rfl,_,_,rfl,C.start⟩,?_⟩,?_⟩
  ·rintro _ V8 l8 ⟨G,ρ,rfl,O⟩
   obtain ⟨HC,R,Ys,QH⟩:=C.Nu O
   dsimp only
   have t1:∀a:Nat,((((a / 2^32:Nat):Int) != 0)=true↔4294967296<=a)/\((((a / 2^32:Nat):Int) != 0)=false↔a<4294967296):=by
    intro a
    constructor
    ·rw [bne_iff_ne];omega
    ·rw [bne_eq_false_iff_eq];omega
   simp only [Ys,e_,(t1 _).1,(t1 _).2]
   refine ⟨by trivial,by omega,fun h=>⟨by omega,fun S=>?_,fun S=>?_⟩,fun h=>⟨by omega,⟨by omega,by omega⟩,_,iy a8,fun E=>⟨by omega,fun S=>?_,fun S=>?_⟩,fun E=>?_⟩⟩
   ·obtain ⟨g1,g2⟩:=C.K1 O (C.KZ h) S
    exact ⟨((G-1:Nat):Int),by rw [QH g1];(try dsimp only);and_intros<;>first|exact True.intro|rfl,G-1,rfl,g2⟩
   ·obtain ⟨g1,g2⟩:=C.K3 O (C.KZ h) S
    exact ⟨(((G-1:Nat):Int),((ρ+v1:Nat):Int)),by (try dsimp only);omega,by rw [QH g1];(try dsimp only);and_intros<;>first|exact True.intro|rfl,G-1,ρ+v1,rfl,g2⟩
   ·have h1:=C.dec O (by rw [HC,R,decide_eq_true_eq] at E;omega)
    obtain ⟨g1,g2⟩:=C.K1 O h1 S
    exact ⟨((G-1:Nat):Int),by rw [QH g1];(try dsimp only);and_intros<;>first|exact True.intro|rfl,G-1,rfl,g2⟩
   ·have h1:=C.dec O (by rw [HC,R,decide_eq_true_eq] at E;omega)
    obtain ⟨g1,g2⟩:=C.K3 O h1 S
    exact ⟨(((G-1:Nat):Int),((ρ+v1:Nat):Int)),by (try dsimp only);omega,by rw [QH g1];(try dsimp only);and_intros<;>first|exact True.intro|rfl,G-1,ρ+v1,rfl,g2⟩
   ·have h1:G*v2<=ρ*4294967296+u2:=by rw [HC,R,decide_eq_false_iff_not] at E;omega
    exact ⟨(G:Int),by (try dsimp only);and_intros<;>first|exact True.intro|rfl,G,rfl,C.last O h h1⟩
  ·rintro _ V9 l9 ⟨G,rfl,T⟩
   have NL:=T.g
   clear C a6 a7 a8
   have o:=I.len
   have a9:=ab Y
   refine ⟨by trivial,fun z V'=>∃(b c i:Nat)(fs:List Nat),z=((b:Int),(c:Int),(i:Int),ay fs++B)/\AA us (af Y) j G i b c fs,fun z=>f-z.2.2.1.toNat,
     ⟨(0,0,0,ay us++B),by (try dsimp only);and_intros<;>first|exact True.intro|rfl,0,0,0,us,rfl,by omega,by omega,by omega,rfl,A.ud,rfl,rfl,by simp⟩,?_⟩
   rintro _ c3 L ⟨b,c,i,fs,rfl,hS⟩
   dsimp only
   simp only [Int.toNat_natCast]
   have hi:=hS.hi
   have d9:=hS.len
   refine ⟨by trivial,fun h=>?_,fun h=>?_⟩
   ·have h:i<f:=by simpa using h
    obtain ⟨u,d,ob,U,cn,cb,q1,q2,q3,q4,q5,P,q7,c5⟩:=hS.step NL (ax Y) A.ud (by omega) (by omega)
    refine (Z.le (l7.trans (l9.trans L))).QA i rfl q1 ?_
    have Yt:i64.wrap ((j:Int)+i)=((j+i:Nat):Int):=by rw [i64w (by omega)];omega
    have Yu:i64.wrap ((i:Int)+1)=((i+1:Nat):Int):=by rw [i64w (by omega)];omega
    rw [q3,Yt,Yu,Int.toNat_natCast]
    refine ⟨⟨by omega,by omega⟩,_,iy q2,⟨by omega,by omega⟩,by simp;omega,by omega,by omega,?_⟩
    rw [q4,q5,P]
    refine ⟨((ob:Int),(cb:Int),((i+1:Nat):Int),ay (fs.set (j+i) U)++B),by (try dsimp only);omega,?_,_,_,_,_,rfl,c5⟩
    (try dsimp only);and_intros<;>first|exact True.intro|rfl|exact sR (by omega)
   ·have h:i=(af Y).length:=by simp at h;omega
    subst h
    obtain ⟨u,ob,U,q1,q2,q3,q4,q5,P,q7,q8,q9,Kj⟩:=hS.fin A.ud (by omega) (by rw [o];exact hz)
    rw [o] at q1 P q7 q8 q9 Kj
    rw [a9] at Kj
    refine ⟨⟨by omega,by omega⟩,_,iy q1,⟨by omega,by omega⟩,by simp;omega,⟨by omega,by omega⟩,by simp;omega,by omega,?_⟩
    rw [q2,q3,sR (by omega),oY (x:=(G:Int)) (by omega)]
    generalize fs.set (j+f) U=ks at *
    have OO:∀H:Nat,(ay D).set (0+j*1) (.int .u32 (H:Int))=ay (D.set j H):=by intro H;rw [Nat.zero_add,Nat.mul_one,aZ]
    rw [OO]
    refine ⟨fun W=>?_,fun W=>?_⟩
    ·have W:ob=0:=by simpa using W
     rw [W,Nat.mul_zero,Nat.add_zero] at Kj
     have b0:=T.lt
     rw [Nat.add_mul,Nat.one_mul] at b0
     refine ⟨((j:Int)-1,ay ks++B,ay (D.set j G)),by (try dsimp only);omega,by (try dsimp only);and_intros<;>first|exact True.intro|rfl,ks,D.set j G,rfl,rfl,?_⟩
     exact A.next Q q7 P q8 Kj (by omega) NL
    ·have W:ob=1:=by
      have:ob≠0:=by simpa using W
      omega
     rw [W,Nat.mul_one] at Kj
     have OE:∀ls:List Nat,ls.length=n+1->bI ls->val (ls.drop (j+f+1))=0->val (ls.drop j)<4294967296^(f+1):=by
      intro ls h1 h2 K
      have a1:=aV (ls.drop j) (f+1) (by simp;omega)
      rw [List.drop_drop,show j+(f+1)=j+f+1 from by omega,K,Nat.mul_zero,Nat.add_zero] at a1
      have a2:=fq ((h2.drop j).take (f+1))
      rw [List.length_take,List.length_drop,Nat.min_eq_left (by omega)] at a2
      omega
     have Zl:=OE ks (by omega) P q9
     have c6:1<=G:=by
      rcases Nat.eq_zero_or_pos G with w|w
      ·subst w;omega
      ·exact w
     have Zf:G*Y=(G-1)*Y+Y:=by conv=>lhs;rw [←Nat.sub_add_cancel c6,Nat.add_mul,Nat.one_mul]
     have Zg:=T.gt
     have Sr:u32.wrap ((G:Int)-1)=((G-1:Nat):Int):=by rw [oY (by omega)];omega
     refine ⟨⟨by omega,by omega⟩,(G:Int),by rw [Nat.zero_add,Nat.mul_one,fm (by simp;omega),List.getElem_set_self],⟨by omega,by omega⟩,by simp;omega,?_⟩
     have Mr:(ay (D.set j G)).set (0+j*1) (.int .u32 ((G-1:Nat):Int))=ay (D.set j (G-1)):=by rw [Nat.zero_add,Nat.mul_one,aZ,List.set_set]
     rw [Sr,Mr]
     refine ⟨fun z V'=>∃(c' i2:Nat)(gs:List Nat),z=((c':Int),(i2:Int),ay gs++B)/\Ay ks (af Y) j i2 c' gs,fun z=>f-z.2.1.toNat,
      ⟨(0,0,ay ks++B),by (try dsimp only);and_intros<;>first|exact True.intro|rfl,0,0,ks,rfl,by omega,by omega,rfl,P,rfl,rfl,by simp⟩,?_⟩
     rintro _ c9 M ⟨c',i2,gs,rfl,hA⟩
     dsimp only
     simp only [Int.toNat_natCast]
     have e1:=hA.hi
     have e2:=hA.len
     refine ⟨by trivial,fun h=>?_,fun h=>?_⟩
     ·have h:i2<f:=by simpa using h
      obtain ⟨u,d,U,cn,cb,r1,r2,r3,r4,r5,d0⟩:=hA.step (ax Y) P (by omega) (by omega)
      refine (Z.le (l7.trans (l9.trans (L.trans M)))).QA i2 rfl r1 ?_
      have Yv:i64.wrap ((j:Int)+i2)=((j+i2:Nat):Int):=by rw [i64w (by omega)];omega
      have d1:i64.wrap ((i2:Int)+1)=((i2+1:Nat):Int):=by rw [i64w (by omega)];omega
      rw [Yv,d1,Int.toNat_natCast]
      refine ⟨⟨by omega,by omega⟩,_,iy r2,⟨by omega,by omega⟩,by simp;omega,by omega,?_⟩
      rw [r3,r4,r5]
      refine ⟨((cb:Int),((i2+1:Nat):Int),ay (gs.set (j+i2) U)++B),by (try dsimp only);omega,?_,_,_,_,rfl,d0⟩
      (try dsimp only);and_intros<;>first|exact True.intro|rfl|exact sR (by omega)
     ·have h:i2=(af Y).length:=by simp at h;omega
      subst h
      obtain ⟨u,U,kp,r1,r2,r3,r4,r5,r6,r7,r8⟩:=hA.fin P (by omega) (by rw [o];exact q9)
      rw [o] at r1 r4 r5 r6 r7 r8
      rw [a9] at r8
      refine ⟨⟨by omega,by omega⟩,_,iy r1,⟨by omega,by omega⟩,by simp;omega,?_⟩
      rw [r2,sR (by omega)]
      have Zk:=OE _ (by omega) r4 r7
      generalize gs.set (j+f) U=hs at *
      have R9:kp=1:=by
       rcases Nat.eq_zero_or_pos kp with w|w
       ·rw [w,Nat.mul_zero] at r8;omega
       ·omega
      rw [R9,Nat.mul_one] at r8
      refine ⟨((j:Int)-1,ay hs++B,ay (D.set j (G-1))),by (try dsimp only);omega,by (try dsimp only);and_intros<;>first|exact True.intro|rfl,hs,D.set j (G-1),rfl,rfl,?_⟩
      exact A.next Q (by omega) r4 (by rw [r6,q8]) (by omega) (by omega) (by omega)
 ·have K:j=-1:=by simp at K;omega
  subst K
  obtain ⟨hq,hr⟩:=A.done hX.symm hY.symm (by omega) I.top
  have NN:=A.qd
  have FR:=A.ud
  intro V8 l8 e3 d2 d3 d4 J
  have XI:RD V8 (some ⟨d2,0,none⟩) f c7 (us.take f):=by
   refine ⟨by simp;omega,by omega,fun i v hv=>⟨_,rfl,?_⟩,FR.take f,fun w=>nomatch w⟩
   rw [add_zero']
   refine blk_at d4 ?_
   rw [yv,List.getElem?_take] at hv
   split at hv
   ·rename_i b0
    rw [List.getElem?_append_left (by simp;omega)];exact hv
   ·cases hv
  refine ⟨⟨by omega,by omega⟩,fun V9 l9=>?_⟩
  refine (aM (RD.aW (ds:=D) d3 NN (n:=n+1-f) (c:=n+1-f) (by omega) (Nat.le_refl _) |>.le l9) (by omega)).mono ?_
  rintro r c3 L ⟨k1,rfl,g1⟩
  refine ⟨_,_,_,rfl,fun c9 M=>?_⟩
  rw [Int.toNat_natCast]
  refine (Fw (XI.le (l9.trans (L.trans M))) (by simp;omega) s (by omega)).mono ?_
  rintro r e4 d5 ⟨p2,n2,c2,rfl,g2⟩
  refine ⟨_,_,_,rfl,fun e5 b5=>⟨_,_,_,_,_,_,rfl,?_,?_⟩⟩
  ·rw [aJ NN] at g1
   unfold RN
   rw [←hq];exact g1.le (M.trans (d5.trans b5))
  ·rw [hr] at g2
   exact g2.le b5
theorem kb {V:View}{p q:OA}{n c m e:Nat}{xa xb:List Nat}(ha:RD V p n c xa)(hb:RD V q m e xb)(hm:xa.length<=1099511627776)(hn:xb.length<=1099511627776)(h0:val xb≠0) :
  Acts prog 184 #[.slice p n c,.slice q m e] V fun r V'=>∃p1 n1 c1 p2 n2 c2,r=.tuple #[.slice p1 n1 c1,.slice p2 n2 c2,.bool true]/\RN V' p1 n1 c1 (val xa / val xb)/\RN V' p2 n2 c2 (val xa%val xb):=by
 have la:=a_ ha.eI
 have lb:=a_ hb.eI
 refine wQ p n c q m e V _ fun S v=>(aM (ha.le v) (by omega)).mono ?_
 rintro r V2 J ⟨n,rfl,b⟩
 rw [aJ ha.eI] at b
 refine ⟨_,_,_,rfl,fun T w=>(aM (hb.le (v.trans (J.trans w))) (by omega)).mono ?_⟩
 rintro r U K ⟨m,rfl,f⟩
 rw [aJ hb.eI] at f
 replace b:=b.le (w.trans K)
 generalize val xa=x at *
 generalize val xb=y at *
 have L:=b.len
 have W:=f.len
 refine ⟨_,_,_,rfl,fun z=>?_,fun z X o=>(xF (b.le o) (f.le o) (by omega) (by omega)).mono ?_⟩
 ·exfalso
  have:af y=[]:=List.length_eq_zero_iff.1 (by simp at z;omega)
  exact h0 (bf.1 this)
 rintro r Y A rfl
 rw [ab,ab]
 replace b:=b.le (o.trans A)
 replace f:=f.le (o.trans A)
 refine ⟨_,rfl,fun d B g=>(kT (b.le g) (by omega)).mono ?_,fun d=>⟨fun j=>?_,fun j B g=>?_⟩⟩
 ·rintro r C D ⟨E,F,G,rfl,h⟩
  have d:x<y:=by simpa [eZ] using d
  refine ⟨_,_,_,rfl,fun k a=>⟨_,_,_,_,_,_,rfl,?_,?_⟩⟩
  ·rw [Nat.div_eq_of_lt d];exact RD.nil
  ·rw [Nat.mod_eq_of_lt d];exact h.le a
 ·have j:m=1:=by simp at j;omega
  subst j
  refine f.Ye 0 rfl (by omega) fun B g=>?_
  have H:=(ax y).get (i:=0) (by omega)
  have M:y=(af y)[0]'(by omega):=by
   have e:=fI (af y) 0 (by omega)
   rw [ab,List.drop_of_length_le (by omega)] at e
   simpa using e
  rw [←M] at H ⊢
  refine (AW (b.le g) (by omega) y h0 H).mono ?_
  rintro r C D ⟨E,F,G,rfl,h⟩
  rw [ab] at h ⊢
  have I:x%y<y:=Nat.mod_lt _ (by omega)
  refine ⟨_,_,_,_,rfl,fun k a=>?_⟩
  rw [aH (by omega)]
  refine (di _ (by omega) (by omega)).mono ?_
  rintro r N s ⟨O,P,Q,rfl,t⟩
  exact ⟨_,_,_,rfl,fun R l=>⟨_,_,_,_,_,_,rfl,h.le (a.trans (s.trans l)),t.le l⟩⟩
 ·have d:y<=x:=by simpa [←Int.not_lt,eZ] using d
  have u:2<=m:=by
   have:¬(m:Int)=1:=by simpa using j
   have:af y≠[]:=fun e=>h0 (bf.1 e)
   have:(af y).length≠0:=fun e=>this (List.length_eq_zero_iff.1 e)
   omega
  refine (Dd (b.le g) (f.le g) (by omega) u d).mono ?_
  rintro r C D ⟨E,F,G,O,P,Q,rfl,h,t⟩
  exact ⟨_,_,_,_,_,_,rfl,fun k a=>⟨_,_,_,_,_,_,rfl,h.le a,t.le a⟩⟩
theorem t_ (x y:Nat):Nat.gcd y (x%y)=Nat.gcd x y:=by
 rw [Nat.gcd_comm x y,Nat.gcd_rec y x,Nat.gcd_comm]
theorem xG {V:View}{p q:OA}{n c m e:Nat}{xa xb:List Nat}(ha:RD V p n c xa)(hb:RD V q m e xb)(hm:xa.length<=1099511627776)(hn:xb.length<=1099511627776) :
  Acts prog 183 #[.slice p n c,.slice q m e] V fun r V'=>∃p1 n1 c1,r=.slice p1 n1 c1/\RN V' p1 n1 c1 (Nat.gcd (val xa) (val xb)):=by
 have la:=a_ ha.eI
 have lb:=a_ hb.eI
 refine Ed p n c q m e V _ fun V1 T=>(hU (ha.le T) hm).mono ?_
 rintro r V2 Z ⟨p1,n1,c1,rfl,f⟩
 refine ⟨_,_,_,rfl,fun V3 U=>(hU (hb.le (T.trans (Z.trans U))) hn).mono ?_⟩
 rintro r V4 l4 ⟨q1,m1,e1,rfl,i⟩
 replace f:=f.le (U.trans l4)
 refine ⟨_,_,_,rfl,fun z k V'=>∃x y:Nat,RN V' z.1 z.2.1 z.2.2.1 x/\RN V' z.2.2.2.1 z.2.2.2.2.1 z.2.2.2.2.2 y/\Nat.gcd x y=Nat.gcd (val xa) (val xb)/\k=y/\(af x).length<=1099511627776/\(af y).length<=1099511627776,
  ⟨(p1,n1,c1,q1,m1,e1),val xb,by (try dsimp only);and_intros<;>trivial,val xa,val xb,f,i,rfl,rfl,by omega,by omega⟩,?_⟩
 rintro ⟨p,n,c,q,m,e⟩ k V5 l5 ⟨x,y,f,i,A,hk,K,g⟩
 dsimp only at f i ⊢
 have a0:=f.len
 have W:=i.len
 rw [←A]
 have stop:m=0->y=0:=fun h=>bf.1 (List.length_eq_zero_iff.1 (by omega))
 have more:∀j:View,V5.Le j->m≠0->Acts prog 184 #[.slice p n c,.slice q m e] j fun r B=>∃p1 n1 c1 p2 n2 c2,r=.tuple #[.slice p1 n1 c1,.slice p2 n2 c2,.bool true]/\RN B p2 n2 c2 (x%y)/\x%y<y/\Nat.gcd y (x%y)=Nat.gcd (val xa) (val xb)/\(af (x%y)).length<=1099511627776/\j.Le B:=by
  intro j l h
  have L:y≠0:=by
   intro e0;subst e0
   rw [xL] at W;simp at W;omega
  have d:x%y<y:=Nat.mod_lt _ (by omega)
  refine (kb (f.le l) (i.le l) K g (by rw [ab];exact L)).mono ?_
  rintro r B M ⟨N,O,P,H,I,J,rfl,X,v⟩
  rw [ab,ab] at v
  exact ⟨_,_,_,_,_,_,rfl,v,d,by rw [t_,A],Nat.le_trans (aB (by omega)) g,M⟩
 refine ⟨by trivial,fun Y=>⟨fun o V6 Q=>?_,fun o j l=>(more j l ?_).mono ?_⟩,fun Y=>⟨fun C=>⟨fun o V6 Q=>?_,fun o j l=>(more j l ?_).mono ?_⟩,fun C a1 D=>?_⟩⟩
 ·rw [stop (by simp at o;omega),Nat.gcd_zero_right]
  rw [stop (by simp at o;omega)] at A
  exact ⟨_,_,_,rfl,f.le Q⟩
 ·simp at o;omega
 ·rintro r B M ⟨N,O,P,H,I,J,rfl,v,d,s,t,R⟩
  exact ⟨_,_,_,_,_,_,_,rfl,(q,m,e,H,I,J),x%y,(by omega),by (try dsimp only);and_intros<;>trivial,y,x%y,i.le (l.trans R),v,s.trans A.symm,rfl,g,t⟩
 ·rw [stop (by simp at o;omega),Nat.gcd_zero_right]
  exact ⟨_,_,_,rfl,f.le Q⟩
 ·simp at o;omega
 ·rintro r B M ⟨N,O,P,H,I,J,rfl,v,d,s,t,R⟩
  exact ⟨_,_,_,_,_,_,_,rfl,(q,m,e,H,I,J),x%y,(by omega),by (try dsimp only);and_intros<;>trivial,y,x%y,i.le (l.trans R),v,s.trans A.symm,rfl,g,t⟩
 ·have a2:n<=2:=by simp at Y;omega
  have a3:m<=2:=by simp at C;omega
  have E:x<18446744073709551616:=(az (k:=2)).1 (by omega)
  have F:y<18446744073709551616:=(az (k:=2)).1 (by omega)
  refine (kc (f.le D) (by omega)).mono ?_
  rintro r a4 S rfl
  rw [ab,if_pos E]
  refine ⟨_,_,rfl,fun a5 dL=>(kc (i.le (D.trans (S.trans dL))) (by omega)).mono ?_⟩
  rintro r a6 cX rfl
  rw [ab,if_pos F]
  refine ⟨_,_,rfl,fun z V'=>∃a b:Nat,z=((a:Int),(b:Int))/\Nat.gcd a b=Nat.gcd x y/\a<18446744073709551616/\b<18446744073709551616,fun z=>z.2.toNat,
   ⟨((x:Int),(y:Int)),by (try dsimp only);and_intros<;>trivial,x,y,rfl,rfl,E,F⟩,?_⟩
  rintro _ lW cY ⟨a,b,rfl,u,a7,G⟩
  dsimp only
  refine ⟨by trivial,fun w=>?_,fun w nQ cN=>?_⟩
  ·have w:b≠0:=by rw [bne_iff_ne] at w;omega
   have d:a%b<b:=Nat.mod_lt _ (by omega)
   have e4:(a:Int).tmod (b:Int)=((a%b:Nat):Int):=by rw [Int.tmod_eq_emod_of_nonneg (by omega),←Int.natCast_emod]
   rw [e4]
   exact ⟨by omega,((b:Int),((a%b:Nat):Int)),by (try dsimp only);rw [Int.toNat_natCast,Int.toNat_natCast];exact d,by (try dsimp only);and_intros<;>trivial,b,a%b,rfl,by rw [t_,u],G,Nat.lt_trans d G⟩
  ·have w:b=0:=by rw [bne_eq_false_iff_eq] at w;omega
   subst w
   rw [Nat.gcd_zero_right] at u
   refine (di _ (by omega) (by omega)).mono ?_
   rintro r qG dU ⟨N,O,P,rfl,X⟩
   refine ⟨_,_,_,rfl,fun sZ dO=>⟨_,_,_,rfl,?_⟩⟩
   rw [←u]
   exact X.le dO
end Go.Proofs.Tryz
namespace Go.Big
def aO (b:Bool)(ds:List Nat):Int:=if b then -(val ds:Int) else val ds
end Go.Big
namespace Go.Eng
open Go.Big
def RI (V:View)(v:Value)(z:Int):Prop:=∃p n c,v=.agg #[.bool (decide (z<0)),.slice p n c]/\RD V p n c (af z.natAbs)
theorem RI.le {V V':View}{v:Value}{z:Int}(h:RI V v z)(l:V.Le V'):RI V' v z:=by
 obtain ⟨p,n,c,e,h⟩:=h;exact ⟨p,n,c,e,h.le l⟩
theorem RI.mk {V:View}{b:Bool}{p:OA}{n c:Nat}{z:Int}(hb:b=decide (z<0))(h:RD V p n c (af z.natAbs)):RI V (.agg #[.bool b,.slice p n c]) z:=⟨p,n,c,by rw [hb],h⟩
theorem RI.zero {V:View}:RI V (.agg #[.bool false,.slice none 0 0]) 0:=⟨_,_,_,rfl,RD.nil⟩
end Go.Eng
namespace Go.Proofs.Tryz
open Go.Eng Go.Big
theorem jx {n:Nat}:br n=0↔n=0:=by
 unfold br;split<;>simp_all
theorem eL (b:Bool)(ds:List Nat):(aO b ds).natAbs=val ds:=by unfold aO;cases b<;>simp
theorem BE (b:Bool)(ds:List Nat):aO b ds<0↔b=true/\val ds≠0:=by
 unfold aO;cases b
 ·simp
 ·simp;omega
theorem aA (z:Int):aO (decide (z<0)) (af z.natAbs)=z:=by
 unfold aO;rw [ab]
 by_cases h:z<0
 ·rw [decide_eq_true h,if_pos rfl];omega
 ·rw [decide_eq_false h,if_neg (by decide)];omega
theorem HJ (b:Bool)(ds:List Nat):aO (!b) ds=-aO b ds:=by unfold aO;cases b<;>simp
theorem nf (ds:List Nat):aO false ds=val ds:=rfl
theorem fg {x n:Nat}(h:n=(af x).length):0<n↔x≠0:=by
 rw [h]
 constructor
 ·intro a b;subst b;simp at a
 ·intro a
  rcases Nat.eq_zero_or_pos (af x).length with e|e
  ·exact absurd (bf.1 (List.length_eq_zero_iff.1 e)) a
  ·exact e
theorem jz {V:View}(b:Bool){p:OA}{n c x:Nat}(h:RN V p n c x) :
  Acts prog 242 #[.bool b,.slice p n c] V fun r V'=>RI V' r (if b then -(x:Int) else x):=by
 have f:=fg h.len
 refine po b p n c V _ ⟨fun a e d=>?_,fun a e d=>?_⟩
 ·rw [if_pos a]
  refine RI.mk ?_ ?_
  ·rw [Bool.eq_iff_iff,decide_eq_true_eq,decide_eq_true_eq]
   omega
  ·rw [Int.natAbs_neg,Int.natAbs_natCast];exact h.le d
 ·rw [a,if_neg (by decide)]
  refine RI.mk ?_ ?_
  ·symm;rw [decide_eq_false_iff_not];omega
  ·rw [Int.natAbs_natCast];exact h.le d
theorem hE {V:View}(b:Bool){p:OA}{n c:Nat}{ds:List Nat}(h:RD V p n c ds)(hm:ds.length<=1099511627776) :
  Acts prog 178 #[.agg #[.bool b,.slice p n c]] V fun r V'=>RI V' r (aO b ds):=by
 refine sw b p n c V _ fun j g=>(hU (h.le g) hm).mono ?_
 rintro r V2 k ⟨l,m,o,rfl,a⟩
 have q:=fg a.len
 have f:=BE b ds
 refine ⟨_,_,_,rfl,fun d i e=>RI.mk ?_ ?_,fun d i e=>RI.mk ?_ ?_⟩
 ·rw [Bool.eq_iff_iff,decide_eq_true_eq,decide_eq_true_eq,f]
  simp [d];omega
 ·rw [eL];exact a.le e
 ·symm;rw [decide_eq_false_iff_not,f];simp [d]
 ·rw [eL];exact a.le e
def kH (b:Bool)(ds:List Nat):Bool:=decide (af (val ds)=ds)&&(!b||decide (ds≠[]))
theorem fB {V:View}(b:Bool){p:OA}{n c:Nat}{ds:List Nat}(h:RD V p n c ds)(hm:ds.length<=1099511627776) :
  Acts prog 159 #[.agg #[.bool b,.slice p n c]] V fun r V'=>r=.bool (kH b ds):=by
 refine pk b p n c V _ fun m j=>(yQ (h.le j) hm).mono ?_
 rintro r V2 o rfl
 refine ⟨_,rfl,fun d=>⟨fun a f g=>?_,fun a f g=>?_⟩,fun d f g=>?_⟩
 ·simp [kH,d];simp at a;simp [a]
 ·have k:=h.len
  simp [kH,d];simp at a;simp [a]
  rw [Bool.eq_iff_iff,decide_eq_true_eq]
  simp
  constructor
  ·intro i l;subst l;simp at k;omega
  ·intro i
   rcases Nat.eq_zero_or_pos ds.length with e|e
   ·exact absurd (List.length_eq_zero_iff.1 e) i
   ·omega
 ·simp [kH,d]
theorem iL {V:View}(n:Int)(h0:-9223372036854775808<=n)(h1:n<=9223372036854775807) :
  Acts prog 179 #[.int .i64 n] V fun r V'=>RI V' r n:=by
 refine nI n V _ ⟨fun a d f=>?_,fun a d f=>?_⟩
 ·have a:n<0:=by simpa using a
  have e:u64.wrap (0-u64.wrap n)=-n:=by rw [qo,qo];omega
  rw [e]
  refine (di _ (by omega) (by omega)).mono ?_
  rintro r V2 g ⟨h,i,j,rfl,b⟩
  refine ⟨_,_,_,rfl,fun k c=>⟨_,_,_,rfl,?_⟩⟩
  rw [show n.natAbs=(-n).toNat from by omega];exact b.le c
 ·have a:0<=n:=by simpa using a
  rw [aH (by omega)]
  refine (di _ (by omega) (by omega)).mono ?_
  rintro r V2 g ⟨h,i,j,rfl,b⟩
  refine ⟨_,_,_,rfl,fun k c=>⟨_,_,_,rfl,?_⟩⟩
  rw [show n.natAbs=n.toNat from by omega];exact b.le c
theorem kS {V:View}(b:Bool){p:OA}{n c:Nat}{ds:List Nat}(h:RD V p n c ds)(hm:ds.length<=1099511627776) :
  Acts prog 182 #[.agg #[.bool b,.slice p n c]] V fun r V'=>r=.int .i64 (aO b ds).sign:=by
 refine sB b p n c V _ fun l k=>(hJ (h.le k) hm).mono ?_
 rintro r V2 m rfl
 have f:(aO b ds)=0↔val ds=0:=by rw [←eL b ds];omega
 have g:=BE b ds
 refine ⟨_,rfl,fun a i j=>?_,fun a=>⟨fun d i j=>?_,fun d i j=>?_⟩⟩
 ·have:val ds=0:=jx.1 (by simp at a;omega)
  rw [f.2 this];rfl
 ·have:val ds≠0:=fun e=>by simp [jx.2 e] at a
  rw [Int.sign_eq_neg_one_of_neg (g.2 ⟨d,this⟩)]
 ·have:val ds≠0:=fun e=>by simp [jx.2 e] at a
  have:0<aO b ds:=by
   have:=f
   have:¬aO b ds<0:=by rw [g];simp [d]
   omega
  rw [Int.sign_eq_one_of_pos this]
theorem vV {V:View}(b:Bool){p:OA}{n c:Nat}{ds:List Nat}(h:RD V p n c ds)(hm:ds.length<=1099511627776) :
  Acts prog 237 #[.agg #[.bool b,.slice p n c]] V fun r V'=>RI V' r (-aO b ds):=by
 refine vx b p n c V _ fun f d=>(hE (!b) (h.le d) hm).mono ?_
 rintro r V2 g ⟨i,j,k,rfl,a⟩
 rw [HJ] at a ⊢
 exact ⟨_,_,_,_,rfl,fun l e=>⟨_,_,_,rfl,a.le e⟩⟩
theorem fJ {V:View}(b1 b2:Bool){p q:OA}{n c m e:Nat}{xa xb:List Nat}(ha:RD V p n c xa)(hb:RD V q m e xb)(hm:xa.length+xb.length<=1099511627776) :
  Acts prog 229 #[.agg #[.bool b1,.slice p n c],.agg #[.bool b2,.slice q m e]] V fun r V'=>RI V' r (aO b1 xa*aO b2 xb):=by
 refine vt b1 p n c b2 q m e V _ fun i a=>(fC (ha.le a) (hb.le a) hm).mono ?_
 rintro r V2 j ⟨k,l,o,rfl,d⟩
 refine ⟨_,_,_,rfl,fun s f=>(jz _ (d.le f)).mono ?_⟩
 rintro r t u ⟨v,w,x,rfl,b⟩
 have g:(if (!(b1==b2))=true then -((val xa*val xb:Nat):Int) else ((val xa*val xb:Nat):Int))=aO b1 xa*aO b2 xb:=by
  unfold aO;cases b1<;>cases b2<;>simp [Int.neg_mul,Int.mul_neg]
 rw [g] at b ⊢
 exact ⟨_,_,_,_,rfl,fun y h=>⟨_,_,_,rfl,b.le h⟩⟩
theorem vU {V:View}(b1 b2:Bool){p q:OA}{n c m e:Nat}{xa xb:List Nat}(ha:RD V p n c xa)(hb:RD V q m e xb)(hm:xa.length<=1099511627776)(hn:xb.length<=1099511627776) :
  Acts prog 228 #[.agg #[.bool b1,.slice p n c],.agg #[.bool b2,.slice q m e]] V fun r V'=>RI V' r (aO b1 xa+aO b2 xb):=by
 have fin:∀{b:Bool} {x:Nat} {i:View} {j:OA} {k l:Nat},RN i j k l x->(if b then -(x:Int) else x)=aO b1 xa+aO b2 xb ->
   Acts prog 242 #[.bool b,.slice j k l] i fun r V'=>∃(GQ:Bool)(Ij:OA)(H2 GY:Nat),r=.agg #[.bool GQ,.slice Ij H2 GY]/\∀o:View,V'.Le o->RI o (.agg #[.bool GQ,.slice Ij H2 GY]) (aO b1 xa+aO b2 xb):=by
  intro b x i j k l h he
  refine (jz b h).mono ?_
  rintro r v w ⟨y,z,A,rfl,a⟩
  rw [he] at a ⊢
  exact ⟨_,_,_,_,rfl,fun B s=>⟨_,_,_,rfl,a.le s⟩⟩
 refine vr b1 p n c b2 q m e V _ ⟨fun f i d=>(Fv (ha.le d) (hb.le d) hm hn).mono ?_,fun f i d=>(xI (ha.le d) (hb.le d) hm hn).mono ?_⟩
 ·rintro r V2 t ⟨j,k,l,rfl,u⟩
  have f:b1=b2:=by simpa using f
  subst f
  exact ⟨_,_,_,rfl,fun o g=>fin (u.le g) (by unfold aO;cases b1<;>simp;omega)⟩
 ·rintro r V2 t ⟨j,k,l,rfl,u⟩
  have f:b2=!b1:=by cases b1<;>cases b2<;>simp_all
  subst f
  refine ⟨_,_,_,_,rfl,fun a o g=>fin (u.le g) ?_,fun a o g=>(xI (hb.le (d.trans (t.trans g))) (ha.le (d.trans (t.trans g))) hn hm).mono ?_⟩
  ·have a:val xb<=val xa:=by simpa using a
   unfold aO;cases b1<;>simp<;>omega
  ·rintro r v w ⟨y,z,A,rfl,C⟩
   have a:val xa<val xb:=by simpa using a
   exact ⟨_,_,_,_,rfl,fun B s=>fin (C.le s) (by unfold aO;cases b1<;>simp<;>omega)⟩
theorem rO {V:View}(b:Bool){p:OA}{n c:Nat}{ds:List Nat}(h:RD V p n c ds)(hm:ds.length<=1099511627776)(hs:val ds<4611686018427387904) :
  Acts prog 185 #[.agg #[.bool b,.slice p n c]] V fun r V'=>r=.tuple #[.int .i64 (aO b ds),.bool true]:=by
 refine qw b p n c V _ fun i g=>(kc (h.le g) hm).mono ?_
 rintro r V2 j rfl
 rw [if_pos (by omega),decide_eq_true (show val ds<18446744073709551616 by omega)]
 refine ⟨_,_,rfl,fun _=>⟨fun d=>⟨fun a k l=>?_,fun a=>?_⟩,fun d=>⟨fun _=>⟨fun a=>⟨fun f m o=>?_,fun f=>?_⟩,fun a=>?_⟩,fun a=>nomatch a⟩⟩,fun d=>nomatch d⟩
 ·subst d
  have e:i64.wrap (u64.wrap (0-(val ds:Int)))=-(val ds:Int):=by
   rw [qo,IntKind.wrap_i64];omega
  rw [e];rfl
 ·simp at a;omega
 ·subst d
  rw [i64w (by omega)];rfl
 ·simp at f;omega
 ·simp [d] at a
end Go.Proofs.Tryz
namespace Go.Eng
open Go.Big
def Wd (q:Rat):Prop:=q.num.natAbs<4611686018427387904/\q.den<4611686018427387904
def RR (V:View)(v:Value)(q:Rat):Prop:=
 (v=.agg #[.int .i64 q.num,.int .i64 ((q.den:Int)-1),.pointer none]/\Wd q) \/
 (∃a b p n c p' n' c',v=.agg #[.int .i64 0,.int .i64 0,.pointer (some a)]/\V.at (a.add 0) (.bool b)/\V.at (a.add 1) (.slice p n c)/\V.at (a.add 2) (.slice p' n' c') /\
  RI V (.agg #[.bool b,.slice p n c]) q.num/\RD V p' n' c' (af q.den)/\¬Wd q)
theorem RR.le {V V':View}{v:Value}{q:Rat}(h:RR V v q)(l:V.Le V'):RR V' v q:=by
 rcases h with h|⟨a,b,p,n,c,d,f,g,e,i,j,k,m,o,r⟩
 ·exact .inl h
 ·exact .inr ⟨a,b,p,n,c,d,f,g,e,l.at i,l.at j,l.at k,m.le l,o.le l,r⟩
def Sz (k:Nat)(q:Rat):Prop:=q.num.natAbs<2^k/\q.den<2^k
theorem Sz.mono {k m:Nat}{q:Rat}(h:Sz k q)(hm:k<=m):Sz m q:=
 ⟨Nat.lt_of_lt_of_le h.1 (Nat.pow_le_pow_right (by omega) hm),Nat.lt_of_lt_of_le h.2 (Nat.pow_le_pow_right (by omega) hm)⟩
theorem ae {n k:Nat}(h:n<2^k):(af n).length<=k:=by
 rw [az]
 exact Nat.lt_of_lt_of_le h (Nat.pow_le_pow_left (by omega) k)
theorem Wd.sz {q:Rat}(h:Wd q):Sz 62 q:=h
theorem RR.shape {V:View}{v:Value}{q:Rat}(h:RR V v q):∃(n d:Int)(p:OA),v=.agg #[.int .i64 n,.int .i64 d,.pointer p]:=by
 rcases h with ⟨e,-⟩|⟨a,b,p,n,c,f,g,i,e,-⟩
 ·exact ⟨_,_,_,e⟩
 ·exact ⟨_,_,_,e⟩
end Go.Eng
namespace Go.Proofs.Tryz
open Go.Eng Go.Big
theorem yI (n:Nat):decide ((br n:Int)<=62)=decide (n<4611686018427387904):=by
 have:=@iI n 62
 rw [Bool.eq_iff_iff,decide_eq_true_eq,decide_eq_true_eq]
 omega
theorem FZ {z:Int}{d:Nat}(hd:d≠0)(hg:Nat.gcd z.natAbs d=1):(mkRat z d).num=z/\(mkRat z d).den=d:=by
 have:Nat.gcd d z.natAbs=1:=by rw [Nat.gcd_comm];exact hg
 rw [Rat.num_mkRat,Rat.den_mkRat,if_neg hd,if_neg hd,this]
 simp
theorem bW {V:View}(b:Bool){p q:OA}{n c m e:Nat}{xs ys:List Nat}(hx:RD V p n c xs)(hy:RD V q m e ys)(hm:xs.length<=1099511627776)(hn:ys.length<=1099511627776) :
  Acts prog 144 #[.agg #[.bool b,.slice p n c],.slice q m e] V fun r V'=>RR V' r (mkRat (aO b xs) (val ys)):=by
 have zero:∀V':View,RR V' (.agg #[.int .i64 0,.int .i64 0,.pointer none]) 0:=fun V'=>.inl ⟨rfl,by unfold Wd;decide⟩
 refine vi b p n c q m e V _ fun G i=>(hJ (hy.le i) hn).mono ?_
 rintro r V2 t rfl
 refine ⟨_,rfl,fun O H P=>?_,fun O Q u=>(kS b (hx.le (i.trans (t.trans u))) hm).mono ?_⟩
 ·have:val ys=0:=jx.1 (by simp at O;omega)
  rw [this,Rat.mkRat_zero];exact zero _
 rintro r v y rfl
 have A:val ys≠0:=fun e=>by simp [jx.2 e] at O
 refine ⟨_,rfl,fun R V6 l6=>?_,fun R V7 l7=>?_⟩
 ·have:aO b xs=0:=Int.sign_eq_zero_iff_zero.1 (by simpa using R)
  rw [this,Rat.zero_mkRat];exact zero _
 have a3:aO b xs≠0:=fun e=>by simp [e] at R
 have B:val xs≠0:=by rw [←eL b xs];omega
 replace hx:=hx.le (i.trans (t.trans (u.trans (y.trans l7))))
 replace hy:=hy.le (i.trans (t.trans (u.trans (y.trans l7))))
 refine (xG hx hy hm hn).mono ?_
 rintro r V8 l8 ⟨p3,n3,c3,rfl,C⟩
 replace hx:=hx.le l8
 replace hy:=hy.le l8
 have S:Nat.gcd (val xs) (val ys)<=val ys:=Nat.le_of_dvd (by omega) (Nat.gcd_dvd_right _ _)
 have j:(af (Nat.gcd (val xs) (val ys))).length<=1099511627776:=Nat.le_trans (aB S) (by have:=a_ hy.eI;omega)
 have T:Nat.gcd (val xs) (val ys)≠0:=by
  intro U;exact B (Nat.eq_zero_of_gcd_eq_zero_left U)
 refine ⟨_,_,_,rfl,fun V9 I=>(hJ (C.le I) j).mono ?_⟩
 rintro r a4 k rfl
 rw [ab]
 replace hx:=hx.le (I.trans k)
 replace hy:=hy.le (I.trans k)
 replace C:=C.le (I.trans k)
 refine ⟨_,rfl,fun z V'=>∃(us d:List Nat),z.2.2.2.1=b/\RD V' z.2.2.2.2.1 z.2.2.2.2.2.1 z.2.2.2.2.2.2 us/\RD V' z.1 z.2.1 z.2.2.1 d/\us.length<=1099511627776/\d.length<=1099511627776/\val d≠0 /\
  Nat.gcd (val us) (val d)=1/\mkRat (aO b xs) (val ys)=mkRat (aO b us) (val d),⟨fun J a5 f=>?_,fun J=>?_⟩,?_⟩
 ·refine (kb (hx.le f) (C.le f) hm j (by rw [ab];exact T)).mono ?_
  rintro r a6 D ⟨p4,n4,c4,p5,n5,c5,rfl,g1,g2⟩
  refine ⟨_,_,_,_,_,_,_,rfl,fun a7 l=>(kb (hy.le (f.trans (D.trans l))) (C.le (f.trans (D.trans l))) hn j (by rw [ab];exact T)).mono ?_⟩
  rintro r a8 dL ⟨p6,n6,c6,p7,n7,c7,rfl,g3,g4⟩
  rw [ab] at g1 g3
  have e1:val (af (val xs / Nat.gcd (val xs) (val ys)))=val xs / Nat.gcd (val xs) (val ys):=ab _
  have W:val (af (val ys / Nat.gcd (val xs) (val ys)))=val ys / Nat.gcd (val xs) (val ys):=ab _
  have d1:=Nat.gcd_dvd_left (val xs) (val ys)
  have d2:=Nat.gcd_dvd_right (val xs) (val ys)
  have X:val ys / Nat.gcd (val xs) (val ys)≠0:=by
   intro U
   have:=Nat.div_mul_cancel d2
   rw [U,Nat.zero_mul] at this
   exact A this.symm
  refine ⟨_,_,_,_,_,_,_,rfl,(p6,n6,c6,b,p4,n4,c4),by (try dsimp only);and_intros<;>trivial,_,_,rfl,g1.le (l.trans dL),g3,?_,?_,?_,?_,?_⟩
  ·exact Nat.le_trans (aB (Nat.div_le_self _ _)) (by have:=a_ hx.eI;omega)
  ·exact Nat.le_trans (aB (Nat.div_le_self _ _)) (by have:=a_ hy.eI;omega)
  ·rw [W];exact X
  ·rw [e1,W];exact Nat.gcd_div_gcd_div_gcd_of_pos_left (by omega)
  ·rw [W]
   have k1:val ys=val ys / Nat.gcd (val xs) (val ys)*Nat.gcd (val xs) (val ys):=(Nat.div_mul_cancel d2).symm
   have k2:aO b xs=aO b (af (val xs / Nat.gcd (val xs) (val ys)))*(Nat.gcd (val xs) (val ys):Nat):=by
    have k3:(val xs:Int)=((val xs / Nat.gcd (val xs) (val ys):Nat):Int)*(Nat.gcd (val xs) (val ys):Nat):=by
     rw [←Int.natCast_mul,Nat.div_mul_cancel d1]
    unfold aO
    rw [e1]
    cases b
    ·simpa using k3
    ·simp only [if_true];rw [Int.neg_mul,←k3]
   conv=>lhs;rw [k1,k2]
   exact Rat.mkRat_mul_right T
 ·have Y:Nat.gcd (val xs) (val ys)=1:=by
   have g:¬(1<br (Nat.gcd (val xs) (val ys))):=by simp at J;omega
   have:=@iI (Nat.gcd (val xs) (val ys)) 1
   omega
  exact ⟨(q,m,e,b,p,n,c),by (try dsimp only);and_intros<;>trivial,xs,ys,rfl,hx,hy,hm,hn,A,Y,rfl⟩
 ·rintro ⟨q,m,e,h,p,n,c⟩ Z cX ⟨us,d,E,hu,K,OT,o,a0,a1,hq⟩
  dsimp only at E hu K ⊢
  subst E
  rw [hq]
  obtain ⟨rW,a⟩:=FZ (z:=aO h us) a0 (by rw [eL];exact a1)
  generalize mkRat (aO h us) (val d)=w at *
  have hW:Wd w↔val us<4611686018427387904/\val d<4611686018427387904:=by
   unfold Wd;rw [rW,a,eL]
  have KZ:∀G:View,Z.Le G->¬Wd w->Acts prog 178 #[.agg #[.bool h,.slice p n c]] G fun r V2=>∃(GQ:Bool)(Ij:OA)(H2 GY:Nat),r=.agg #[.bool GQ,.slice Ij H2 GY] /\
    (∀H:View,V2.Le H->Acts prog 187 #[.slice q m e] H fun r Q=>∃(VB:OA)(Vv Un:Nat),r=.slice VB Vv Un /\
    (∀v:View,Q.Le v->∀L:Nat,v.aW L (.cells #[.bool GQ,.slice Ij H2 GY,.slice VB Vv Un] 289 (0,0))->RR v (.agg #[.int .i64 0,.int .i64 0,.pointer (some ⟨L,0,none⟩)]) w)):=by
   intro G i hw
   refine (hE h (hu.le i) OT).mono ?_
   rintro r V2 t GC
   obtain ⟨p2,n2,c2,rfl,J⟩:=GC
   have GC:RI V2 (.agg #[.bool (decide (aO h us<0)),.slice p2 n2 c2]) (aO h us):=⟨_,_,_,rfl,J⟩
   refine ⟨_,_,_,_,rfl,fun H P=>(hU (K.le (i.trans (t.trans P))) o).mono ?_⟩
   rintro r Q u ⟨p3,n3,c3,rfl,g⟩
   refine ⟨_,_,_,rfl,fun v y L hb=>.inr ⟨⟨L,0,none⟩,decide (aO h us<0),p2,n2,c2,p3,n3,c3,rfl,?_,?_,?_,?_,?_,hw⟩⟩
   ·rw [add_zero'];exact blk_at (xs:=[_,_,_]) hb rfl
   ·rw [add_zero'];exact blk_at (xs:=[_,_,_]) hb rfl
   ·rw [add_zero'];exact blk_at (xs:=[_,_,_]) hb rfl
   ·rw [rW];exact GC.le (P.trans (u.trans y))
   ·rw [a];exact g.le y
  refine ⟨by trivial,fun lW s=>(hJ (hu.le s) OT).mono ?_⟩
  rintro r nQ F rfl
  refine ⟨_,rfl,fun g qG M=>(hJ (K.le (s.trans (F.trans M))) o).mono ?_,fun g LM Ax=>KZ LM (s.trans (F.trans Ax)) ?_⟩
  ·rintro r sZ dO rfl
   rw [yI,decide_eq_true_eq] at g
   refine ⟨_,rfl,fun N C3 jg=>?_,fun N GL a2=>KZ GL (s.trans (F.trans (M.trans (dO.trans a2)))) ?_⟩
   ·rw [yI,decide_eq_true_eq] at N
    refine (rO h (hu.le (s.trans (F.trans (M.trans (dO.trans jg))))) OT g).mono ?_
    rintro r vS gj rfl
    refine ⟨_,_,rfl,fun yA kJ=>(kc (K.le (s.trans (F.trans (M.trans (dO.trans (jg.trans (gj.trans kJ))))))) o).mono ?_⟩
    rintro r xj gS rfl
    rw [if_pos (by omega)]
    refine ⟨_,_,rfl,fun Jc xY=>.inl ⟨?_,hW.2 ⟨g,N⟩⟩⟩
    rw [i64w (x:=((val d:Nat):Int)) (by omega),i64w (by omega),rW,a]
   ·rw [yI,decide_eq_false_iff_not] at N
    rw [hW];omega
  ·rw [yI,decide_eq_false_iff_not] at g
   rw [hW];omega
end Go.Proofs.Tryz
namespace Go.Eng
open Go.Big
theorem RI.inv {V:View}{b:Bool}{p:OA}{n c:Nat}{z:Int}(h:RI V (.agg #[.bool b,.slice p n c]) z):b=decide (z<0)/\RD V p n c (af z.natAbs):=by
 obtain ⟨d,f,g,e,a⟩:=h
 simp at e
 obtain ⟨rfl,rfl,rfl,rfl⟩:=e
 exact ⟨rfl,a⟩
end Go.Eng
namespace Go.Proofs.Tryz
open Go.Eng Go.Big
theorem eX {V:View}{v:Value}{q:Rat}(h:RR V v q){k:Nat}(hs:Sz k q)(hk:k<=1099511627776) :
  Acts prog 139 #[v] V fun r V'=>RI V' r q.num:=by
 rcases h with ⟨rfl,hw⟩|⟨a,b,p,n,c,u,w,x,rfl,i,j,y,l,z,hw⟩
 ·have:=hw.1
  refine mM _ _ _ V _ ⟨(fun d=>nomatch d),fun _ m f=>(iL _ (by omega) (by omega)).mono ?_⟩
  rintro r V2 o ⟨p,n,c,rfl,g⟩
  exact ⟨_,_,_,_,rfl,fun s e=>⟨_,_,_,rfl,g.le e⟩⟩
 ·obtain ⟨rfl,t⟩:=l.inv
  refine mM _ _ _ V _ ⟨fun _=>⟨rfl,rfl,decide (q.num<0),p,n,c,a.add 0,rfl,?_,?_,fun m f=>(hE _ (t.le f) (Nat.le_trans (ae hs.1) hk)).mono ?_⟩,fun d=>nomatch d⟩
  ·exact i
  ·simpa [Addr.add] using j
  ·rintro r V2 o ⟨p,n,c,rfl,g⟩
   rw [aA] at g ⊢
   exact ⟨_,_,_,_,rfl,fun s e=>⟨_,_,_,rfl,g.le e⟩⟩
theorem eg {V:View}{v:Value}{q:Rat}(h:RR V v q){k:Nat}(hs:Sz k q)(hk:k<=1099511627776) :
  Acts prog 207 #[v] V fun r V'=>∃p n c,r=.slice p n c/\RN V' p n c q.den:=by
 rcases h with ⟨rfl,hw⟩|⟨a,b,p,n,c,s,t,u,rfl,w,x,i,y,j,hw⟩
 ·have:=hw.2
  have z:=q.den_nz
  refine mJ _ _ _ V _ ⟨(fun d=>nomatch d),fun _ l f=>?_⟩
  rw [i64w (by omega),aH (by omega)]
  refine (di _ (by omega) (by omega)).mono ?_
  rintro r V2 m ⟨p,n,c,rfl,g⟩
  rw [show ((q.den:Int)-1+1).toNat=q.den from by omega] at g
  exact ⟨_,_,_,rfl,fun o e=>⟨_,_,_,rfl,g.le e⟩⟩
 ·refine mJ _ _ _ V _ ⟨fun _=>⟨rfl,rfl,_,_,_,⟨_,rfl,i⟩,fun l f=>(hU (j.le f) (Nat.le_trans (ae hs.2) hk)).mono ?_⟩,fun d=>nomatch d⟩
  rintro r V2 m ⟨p,n,c,rfl,g⟩
  rw [ab] at g
  exact ⟨_,_,_,rfl,fun o e=>⟨_,_,_,rfl,g.le e⟩⟩
theorem g_ {V:View}(n:Int)(h0:-9223372036854775808<n)(h1:n<=9223372036854775807) :
  Acts prog 205 #[.int .i64 n] V fun r V'=>r=.int .u64 (n.natAbs:Int):=by
 refine CA n V _ ⟨fun a b c=>?_,fun a b c=>?_⟩
 ·have a:n<0:=by simpa using a
  rw [i64w (by omega),aH (by omega)];congr 1;omega
 ·have a:0<=n:=by simpa using a
  rw [aH (by omega)];congr 1;omega
theorem tC {V:View}(x y:Nat)(hx:x<18446744073709551616)(hy:y<18446744073709551616) :
  Acts prog 204 #[.int .u64 (x:Int),.int .u64 (y:Int)] V fun r V'=>r=.int .u64 (Nat.gcd x y:Int):=by
 refine CB _ _ V _ ⟨fun z V'=>∃a b:Nat,z=((a:Int),(b:Int))/\Nat.gcd a b=Nat.gcd x y,fun z=>z.2.toNat,
  ⟨((x:Int),(y:Int)),by (try dsimp only);and_intros<;>trivial,x,y,rfl,rfl⟩,?_⟩
 rintro _ g h ⟨a,b,rfl,c⟩
 dsimp only
 refine ⟨by trivial,fun d=>?_,fun d i j=>?_⟩
 ·have d:b≠0:=by rw [bne_iff_ne] at d;omega
  have e:a%b<b:=Nat.mod_lt _ (by omega)
  have f:(a:Int).tmod (b:Int)=((a%b:Nat):Int):=by rw [Int.tmod_eq_emod_of_nonneg (by omega),←Int.natCast_emod]
  rw [f]
  exact ⟨by omega,((b:Int),((a%b:Nat):Int)),by (try dsimp only);rw [Int.toNat_natCast,Int.toNat_natCast];exact e,by (try dsimp only);and_intros<;>trivial,b,a%b,rfl,by rw [t_,c]⟩
 ·have d:b=0:=by rw [bne_eq_false_iff_eq] at d;omega
  subst d
  rw [Nat.gcd_zero_right] at c
  rw [c]
theorem eY {V:View}(a b:Int)(ha:a.natAbs<4611686018427387904)(hb:b.natAbs<4611686018427387904) :
  Acts prog 226 #[.int .i64 a,.int .i64 b] V fun r V'=>∃z:Int,r=.tuple #[.int .i64 z,.bool (decide ((a*b).natAbs<4611686018427387904))]/\((a*b).natAbs<4611686018427387904->z=a*b):=by
 refine wJ a b V _ fun k l=>(g_ a (by omega) (by omega)).mono ?_
 rintro r V2 m rfl
 refine ⟨_,rfl,fun n o=>(g_ b (by omega) (by omega)).mono ?_⟩
 rintro r q s rfl
 refine ⟨_,rfl,fun t u=>(Js _ _ (by omega) (by omega)).mono ?_⟩
 rintro r v w rfl
 have g:(a*b).natAbs=a.natAbs*b.natAbs:=Int.natAbs_mul a b
 have f:a*b=if (decide (a<0)==decide (b<0)) then ((a.natAbs*b.natAbs:Nat):Int) else -((a.natAbs*b.natAbs:Nat):Int):=by
  rw [Int.natCast_mul]
  by_cases c:a<0<;>by_cases d:b<0
  ·rw [decide_eq_true c,decide_eq_true d,show (a.natAbs:Int)=-a from by omega,show (b.natAbs:Int)=-b from by omega];simp [Int.neg_mul,Int.mul_neg]
  ·rw [decide_eq_true c,decide_eq_false d,if_neg (by decide),show (a.natAbs:Int)=-a from by omega,show (b.natAbs:Int)=b from by omega];simp [Int.neg_mul]
  ·rw [decide_eq_false c,decide_eq_true d,if_neg (by decide),show (a.natAbs:Int)=a from by omega,show (b.natAbs:Int)=-b from by omega];simp [Int.mul_neg]
  ·rw [decide_eq_false c,decide_eq_false d,show (a.natAbs:Int)=a from by omega,show (b.natAbs:Int)=b from by omega];simp
 rw [g]
 generalize a.natAbs*b.natAbs=p at *
 refine ⟨_,_,rfl,fun e i j=>?_,fun e=>⟨fun c i j=>?_,fun c=>⟨fun d i j=>?_,fun d i j=>?_⟩⟩⟩
 ·have e:18446744073709551616<=p:=by rw [bne_iff_ne] at e;omega
  rw [decide_eq_false (by omega)]
  exact ⟨_,rfl,fun h=>by omega⟩
 ·have c:4611686018427387904<=p:=by
   rw [decide_eq_true_eq] at c;omega
  rw [decide_eq_false (by omega)]
  exact ⟨_,rfl,fun h=>by omega⟩
 ·have e:p / 18446744073709551616=0:=by rw [bne_eq_false_iff_eq] at e;omega
  have c:p<4611686018427387904:=by rw [decide_eq_false_iff_not] at c;omega
  rw [decide_eq_true c,i64w (x:=((p%18446744073709551616:Nat):Int)) (by omega),i64w (by omega)]
  refine ⟨_,rfl,fun _=>?_⟩
  have d:(decide (a<0)==decide (b<0))=false:=by simpa using d
  rw [f,d,if_neg (by decide)];omega
 ·have e:p / 18446744073709551616=0:=by rw [bne_eq_false_iff_eq] at e;omega
  have c:p<4611686018427387904:=by rw [decide_eq_false_iff_not] at c;omega
  rw [decide_eq_true c,i64w (x:=((p%18446744073709551616:Nat):Int)) (by omega)]
  refine ⟨_,rfl,fun _=>?_⟩
  have d:(decide (a<0)==decide (b<0))=true:=by simpa using d
  rw [f,d,if_pos rfl];omega
theorem mC {V:View}(n:Int)(d:Nat)(hn:n.natAbs<4611686018427387904)(hd:d<4611686018427387904)(hd0:d≠0) :
  Acts prog 227 #[.int .i64 n,.int .i64 (d:Int)] V fun r V'=>RR V' r (mkRat n d):=by
 refine vh n _ V _ fun o p=>(g_ n (by omega) (by omega)).mono ?_
 rintro r V2 q rfl
 rw [aH (x:=(d:Int)) (by omega)]
 refine ⟨_,rfl,fun s t=>(tC _ _ (by omega) (by omega)).mono ?_⟩
 rintro r u v rfl
 have g:Nat.gcd n.natAbs d<=d:=Nat.le_of_dvd (by omega) (Nat.gcd_dvd_right _ _)
 have w:0<Nat.gcd n.natAbs d:=Nat.gcd_pos_of_pos_right _ (by omega)
 have c:=Rat.num_mkRat n d
 have a:=Rat.den_mkRat n d
 rw [if_neg hd0,Nat.gcd_comm] at c a
 have b:(Nat.gcd n.natAbs d:Int)∣n:=Int.ofNat_dvd_left.2 (Nat.gcd_dvd_left _ _)
 have h:d / Nat.gcd n.natAbs d<=d:=Nat.div_le_self _ _
 have i:(n / (Nat.gcd n.natAbs d:Int)).natAbs<=n.natAbs:=by
  rw [Int.natAbs_ediv_of_dvd b,Int.natAbs_natCast];exact Nat.div_le_self _ _
 have f:Wd (mkRat n d):=by unfold Wd;rw [c,a];omega
 refine ⟨_,rfl,?_⟩
 rw [i64w (x:=((Nat.gcd n.natAbs d:Nat):Int)) (by omega)]
 refine ⟨fun e=>⟨by omega,by omega,fun j k=>.inl ⟨?_,f⟩⟩,fun e j k=>.inl ⟨?_,f⟩⟩
 ·rw [c,a]
  have l:n.tdiv (Nat.gcd n.natAbs d:Int)=n / (Nat.gcd n.natAbs d:Int):=Int.tdiv_eq_ediv_of_dvd b
  have m:(d:Int).tdiv (Nat.gcd n.natAbs d:Int)=((d / Nat.gcd n.natAbs d:Nat):Int):=by rw [Int.tdiv_eq_ediv_of_nonneg (by omega),←Int.natCast_ediv]
  rw [l,m]
  generalize n / (Nat.gcd n.natAbs d:Int)=nn at *
  generalize d / Nat.gcd n.natAbs d=dd at *
  rw [i64w (by omega),i64w (x:=(dd:Int)) (by omega),i64w (by omega)]
 ·have e:Nat.gcd n.natAbs d=1:=by rw [decide_eq_false_iff_not] at e;omega
  rw [c,a,e,i64w (by omega)]
  simp
end Go.Proofs.Tryz
