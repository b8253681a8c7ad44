import Derived.Test.YtobpmgpnbbcgjaaGreatDoorCards
import Derived.Test.YtobpmgpnbbcgjaaGreatDoorTie
import Derived.ProofKit
import Derived.OpenShut
import Derived.Deep.DeepHandedRow
import Derived.LaidLaws
import Derived.Lay
import Derived.Carry
import Derived.IntWalk
import Derived.Shelf.SlLaysF0
import Derived.Shelf.Lays
import Derived.Shelf.Small.Bits
import Derived.Shelf.Bits.Mul64
import Derived.Test.YtobpmgpnbbcgjaaGreatDoorG6
set_option linter.all false
open Go.IntKind (i64 u64 u32)
open Go.Value renaming int→Ô,slice→dB,bool→Õ,tuple→æ
namespace Go.Proofs.YtobpmgpnbbcgjaaGreatDoor
open Go.ChangeShapes Go.WideShapes Go.ChangeAt Go.RowKit Go.Eng
theorem own:ownKnob Tryz.prog.godebug=none:=ζ
def star : "*" ++ "errors.errorString" = "*errors.errorString" := by decide
def rowE (u : TypeId)(h : Tryz.prog.typeName? 3 u = some "*errors.errorString") : u = 396 :=
 typeName_ptr_named (nm := "errors.errorString") (by rw [star]; kernel_rfl) ζ φ u (by rw [star]; exact h)
def Yv:Tryz.prog.cellsOf 413=1:=ζ
def Yw:Tryz.prog.cellsOf 9=1:=ζ
def row0 (g:Nat):MemPlace.cell g 0∈MemPlace.row ⟨g,0,none⟩ 1:=by simp [MemPlace.row]
def Xb {P:Program}{W:World}{name:String}{g:Nat}{v:un}(u:P.globalNamed name=some g)(h:W.var? P name=some #[v]):W.cell? ⟨g,0,none⟩=some v:=by simpa using World.var?_cell u h 0
set_option maxRecDepth 100000 in
def vP {W:World}{l:zA (String×DataW Unit)}{name:String}{text:zA UInt8}{g:Nat}(D:Tryz.prog.globalNamed name=some g)(hty:(Tryz.prog.globals[g]?).map (·.type)=some 30)(hm : (name, .iface "*errors.errorString" (.ptr (.agg [.lit (.string text)]))) ∈ l)(h : laidMet Tryz.prog l W):∃a,W.cell? ⟨g,0,none⟩=some (.iface 396 (.pointer (some a))):=by
 obtain ⟨k,m,-,c⟩:=h
 induction l generalizing k with
 | nil=>cases hm
 | cons x r E=>
  obtain ⟨n,d⟩:=x;obtain ⟨B,t,cs,fuel,p,q,i,o,f,w,y,rfl⟩:=m;rcases ê.1 hm with e|hm
  ·cases e;obtain rfl:=ő (D.symm.m i);obtain rfl:=ő (hty.symm.m o);obtain ⟨z⟩:=cs
   have j:∀u v,z=[.iface u v]->Value.okWide Tryz.prog W .any 0 u v:=λu v e=>by
    subst e;exact (c g 0 (Ļ _ (Ļ _ (row0 g)))).2 u v (Xb D f)
   obtain ⟨a,s,rfl,-⟩:=errorString_of_trod Tryz.underlying30 rowE Tryz.underlying396 Tryz.underlying413 rfl rfl Tryz.underlying9 Yv Yw w j;exact ⟨a,Xb D f⟩
  ·exact E hm q y λb off A=>c b off (Œ _ A)
def Ó.all (W:World):Ó:=⟨W,λ_=>False,λ_=>False,λ_ h=>h.elim,λ_ h=>h⟩
def Jj {w w':World}(h:j_ (λ_=>False) w w')(may:MemPlace->Prop):w.keptBut w' may:=by refine ⟨h.os,h.out,λi a=>?_⟩;rw [h.aW i a (λh=>h)];(cases w.heap[i]? with|none=>rfl|some o=>{cases o<;>simp})
def DN {f:FuncId}{args:Array un}{W:World}{R:un->Prop}(h:aa Tryz.prog f args (Ó.all W) λr _=>R r):Calls Tryz.prog f args W λe w'=>∃r,e=.returned r/\R r/\j_ (λ_=>False) W w':=
 h.2.s λe w' ⟨r,he,a,b⟩=>⟨r,he,b,a⟩
def laidOut:laidOutB Tryz.prog=true:=ζ
def Ga {w w':World}(h:j_ (λ_=>False) w w'):Below w.heap.size w w':=⟨h.os,h.tape,h.out,h.size,λk a=>h.aW k a (λh=>h)⟩
def OG {P:Program}(hlo:laidOutB P=true){H:Type}{enc:TypeId×un->H}{W W':World}(y:Below W.heap.size W W')(ts:zA TypeId):∀{vs:zA un} {ds:zA (DataW H)} {u:zA MemPlace},(ts.all λt=>P.readableRec t&&decide (t<P.types.size))=true->DataW.TrodAll enc P W 0 (λ_=>true) true ts vs ds u->(∀x∈u,x.block<W.heap.size) ->DataW.TrodAll enc P W' 0 (λb=>decide (b<W.heap.size)) true ts vs ds u:=by
 induction ts with
 | nil=>
  intro vs ds u _ h _;obtain ⟨rfl,rfl,rfl⟩:=trodAll_nil h;exact trodAll_mk0
 | cons t ts z=>
  intro vs ds u c h a;obtain ⟨v,f,d,g,p,q,rfl,rfl,rfl,i,j⟩:=trodAll_cons h;simp only [List.all_cons,Č,Ñ] at c;exact trodAll_cons_mk (Below.trod hlo c.1.1 c.1.2 i y λx e=>a x (Ļ _ e)) (z c.2 j λx e=>a x (Œ _ e))
set_option maxRecDepth 100000 in
def VI {H:Type}{enc:TypeId×un->H}{fid:FuncId}{f:Func}{s:ChangeSpec}{W:World}{args:Array un}{ds gs:zA (DataW H)}{before:zA MemPlace}{fresh handsOn:md}(y:DataW.Whole enc Tryz.prog f.params.toList s.vars false W args.toList ds gs before)(hvars:s.vars=[])(hts:(f.params.toList.all λt=>Tryz.prog.readableRec t&&decide (t<Tryz.prog.types.size))=true)(hres:f.resultTypes=#[4])(u:s.fn H (ds++gs)={ results:=[.lit (.bool true)],args:=ds })(h:aa Tryz.prog fid args (Ó.all W) λr _=>r=.bool true):Calls Tryz.prog fid args W λe W'=>∃v,e=.returned v/\s.post enc Tryz.prog f false fresh handsOn false W args v W':=by refine (DN h).s λe W' ⟨r,he,g,a⟩=>?_;subst he g;have b:=y;obtain ⟨p,q,i,d,rfl,-,-⟩:=y;rw [hvars] at d;obtain ⟨rfl,rfl⟩:=trodVars_none d;have c:∀x∈p++[],x.block<W.heap.size:=λx a=>b.lt x a;refine ⟨_,rfl,ds,_,p++[],[],p++[],[],b,?_,?_,?_,Jj a _,λh=>nomatch h⟩;{rw [u,hres];exact trodAll_cons_mk (shut_bool Tryz.underlying4 _) trodAll_mk0};{rw [u,þ];exact OG laidOut (Ga a) _ hts i λx a=>c x (by rw [þ];exact a)};{rw [u,hvars];rfl}
set_option maxRecDepth 100000 in
def JS {H:Type}{enc:TypeId×un->H}{W:World}{p:OA}{n c:Nat}{d:DataW H}{u:zA MemPlace}(h:DataW.Trod enc Tryz.prog W 0 (λ_=>true) true 22 (.slice p n c) d u):n<=c/\∀i,i<n->∃(a:Addr)(x:Int),ae p (i*1)=some a/\(Ó.all W).at a (.int .i64 x):=by obtain ⟨fuel,k⟩:=h;rcases open_ints Tryz.underlying22 Tryz.underlying3 (show Tryz.prog.cellsOf 3=1 by kernel_rfl) k with ⟨b,-⟩|⟨a,f,g,o,b,_,l,-,m,-,e,-⟩;{simp [Value.cells] at b;obtain ⟨rfl,rfl,rfl⟩:=b;exact ⟨Ù _,λi j=>Å j ω⟩};{simp [Value.cells] at b;obtain ⟨rfl,rfl,rfl⟩:=b;simp only [Ï] at m;exact ⟨l,λi j=>⟨a.add i,_,by rw [Ĝ];rfl,λh=>h,e i ω⟩⟩}
end Go.Proofs.YtobpmgpnbbcgjaaGreatDoor
namespace Go.Big
variable{a ds:List Nat}{n:Nat}
def val:List Nat->Nat
 | []=>0
 | d::r=>d+4294967296*val r
def cM (ds:List Nat):Prop:=∀d∈ds,d<4294967296
def cX:List Nat->List Nat
 | []=>[]
 | d::r=>if cX r=[]/\d=0 then [] else d::cX r
def yJ (ds:List Nat):Prop:=cX ds=ds
def Bb:Nat->Nat->List Nat
 | 0,_=>[]
 | f+1,n=>if n=0 then [] else n%4294967296::Bb f (n / 4294967296)
def ah (n:Nat):List Nat:=Bb n n
@[simp] theorem fY:val []=0:=rfl
@[simp] theorem bO (d:Nat)(r:List Nat):val (d::r)=d+4294967296*val r:=rfl
theorem cM.nil:cM []:=λ_ h=>nomatch h
theorem cM.cons {d:Nat}{r:zA Nat}:cM (d::r)↔d<4294967296/\cM r:=by simp [cM]
theorem cM.append {b:zA Nat}:cM (a++b)↔cM a/\cM b:=by simp [cM,or_imp,forall_and]
theorem cM.take (h:cM a)(k:Nat):cM (a.take k):=λd b=>h d (Qb3 b)
theorem cM.drop (h:cM a)(k:Nat):cM (a.drop k):=λd b=>h d (Qg2 b)
theorem cM.set (h:cM a)(k x:Nat)(u:x<4294967296):cM (a.set k x):=λd c=>by
 rcases List.mem_or_eq_of_mem_set c with b|b
 ·exact h d b
 ·exact b▸u
theorem cM.get (h:cM a){i:Nat}(hi:i<a.length):a[i]<4294967296:=h _ (ó hi)
theorem cM.rep (n:Nat):cM (List.replicate n 0):=λd a=>by rw [Qr6 a];omega
theorem eQ (a b:zA Nat):val (a++b)=val a+4294967296^a.length*val b:=by
 induction a with
 | nil=>simp
 | cons d r u=>simp only [Qc2,bO];grind
theorem iG (h:cM ds):val ds<4294967296^ds.length:=by
 induction ds with
 | nil=>simp
 | cons d r u=>
  have a:=cM.cons.1 h;grind [val]
theorem An (n:Nat):val (List.replicate n 0)=0:=by
 induction n with
 | zero=>rfl
 | succ n u=>simp [List.replicate_succ,u]
theorem aA (ds:zA Nat)(i:Nat)(h:i<ds.length:=by omega):val (ds.take (i+1))=val (ds.take i)+4294967296^i*ds[i]:=by rw [Qz1 h,eQ];simp [ğ (Qr7 h)]
theorem aq {ds:zA Nat}{i:Nat}(h:ds.length<=i:=by omega):val (ds.take i)=val ds:=by rw [Ŕ h]
theorem D1 (ds:zA Nat)(i x:Nat)(h:i<ds.length):(ds.set i x).take (i+1)=ds.take i++[x]:=by grind [List.take_succ_eq_append_getElem,List.take_set,List.set_eq_of_length_le]
theorem aU (ds:zA Nat)(i x:Nat)(h:i<ds.length:=by omega):val ((ds.set i x).take (i+1))=val (ds.take i)+4294967296^i*x:=by rw [D1 ds i x h,eQ];simp [ğ (Qr7 h)]
theorem jX (r:zA Nat):cX (r++[0])=cX r:=by
 induction r with
 | nil=>simp [cX]
 | cons d r u=>simp only [Qc2,cX,u]
theorem uo (r:zA Nat)(d:Nat)(h:d≠0):cX (r++[d])=r++[d]:=by
 induction r with
 | nil=>simp [cX,h]
 | cons x r u=>simp [cX,u]
theorem Qi (ds:zA Nat):val (cX ds)=val ds:=by
 induction ds with
 | nil=>rfl
 | cons d r u=>
  simp only [cX];split
  ·rename_i h;rw [bO,<-u,h.1,h.2];rfl
  ·simp [u]
theorem nS (ds:zA Nat):(cX ds).length<=ds.length:=by
 induction ds with
 | nil=>simp [cX]
 | cons d r u=>simp only [cX];split<;>simp<;>omega
theorem Qg (ds:zA Nat):cX ds=ds.take (cX ds).length:=by induction ds<;>grind [cX]
theorem cM.trim (h:cM ds):cM (cX ds):=by rw [Qg];exact h.take _
theorem Kg (ds:zA Nat):yJ (cX ds):=by
 unfold yJ
 induction ds with
 | nil=>rfl
 | cons d r u=>
  rw [cX];split
  ·rfl
  ·rename_i h;rw [cX,u,Ã h]
theorem yJ.tail {d:Nat}{r:zA Nat}(h:yJ (d::r)):yJ r:=by unfold yJ at h ⊢;simp only [cX] at h;split at h;{cases h};{injection h}
theorem yJ.zero (h:yJ ds)(u:val ds=0):ds=[]:=by
 induction ds with
 | nil=>rfl
 | cons d r y=>
  have a:=y h.tail (by simp at u;omega);subst a;simp at u;subst u;simp [yJ,cX] at h
theorem vd:∀(f n:Nat),n<=f->val (Bb f n)=n/\cM (Bb f n)/\yJ (Bb f n)
 | 0,n,h=>⟨by simp [Bb];omega,cM.nil,rfl⟩
 | f+1,n,h=>by
  simp only [Bb];split
  ·subst_vars;exact ⟨rfl,cM.nil,rfl⟩
  ·have ⟨u,z,y⟩:=vd f (n / 4294967296) ω;refine ⟨by rw [bO,u];omega,cM.cons.2 ⟨ω,z⟩,?_⟩;unfold yJ at y ⊢;rw [cX,y,Ã];rintro ⟨a,b⟩;rw [a] at u;simp at u;omega
theorem af (n:Nat):val (ah n)=n:=(vd n n (Ù _)).1
theorem aN (n:Nat):cM (ah n):=(vd n n (Ù _)).2.1
theorem lD (n:Nat):yJ (ah n):=(vd n n (Ù _)).2.2
theorem yJ.ext:∀{a b:zA Nat},cM a->cM b->yJ a->yJ b->val a=val b->a=b
 | [],b,_,_,_,u,h=>(u.zero (by rw [<-h];rfl)).symm
 | d::r,[],_,_,y,_,h=>by have:=y.zero h;cases this
 | d::r,e::s,y,u,z,D,h=>by
  have f:=(cM.cons.1 y).1;have g:=(cM.cons.1 u).1;simp only [bO] at h;have:val r=val s:=ω
  have c:=yJ.ext (cM.cons.1 y).2 (cM.cons.1 u).2 z.tail D.tail this;grind
theorem Bc (h:cM ds)(u:yJ ds):ah (val ds)=ds:=yJ.ext (aN _) h (lD _) u (af _)
theorem a_ (h:cM ds):cX ds=ah (val ds):=by rw [<-Qi,Bc h.trim (Kg _)]
theorem vg {a b:Nat}(h:ah a=ah b):a=b:=by rw [<-af a,h,af]
@[simp] theorem E_:ah 0=[]:=rfl
theorem bR:ah n=[]↔n=0:=⟨λh=>vg (by rw [h];rfl),λh=>h▸rfl⟩
theorem yJ.last (h:yJ ds)(u:0<ds.length):ds[ds.length-1]≠0:=by intro e;have a:ds=ds.take (ds.length-1)++[ds[ds.length-1]]:=by{grind [List.take_succ_eq_append_getElem,Nat.sub_add_cancel,List.take_length]};rw [e] at a;have b:cX ds=ds:=h;rw [a,jX] at b;have:=nS (ds.take (ds.length-1));grind
theorem Jw (h:∀u:0<ds.length,ds[ds.length-1]≠0):yJ ds:=by rcases Ĵ ds.length with e|e;{rw [ĝ.1 e];rfl};{have a:ds=ds.take (ds.length-1)++[ds[ds.length-1]]:=by{grind [List.take_succ_eq_append_getElem,Nat.sub_add_cancel,List.take_length]};have:=uo (ds.take (ds.length-1)) _ (h e);rw [<-a] at this;exact this}
theorem T8 (h:yJ ds)(u:0<ds.length:=by omega):4294967296^(ds.length-1)<=val ds:=by have a:ds=ds.take (ds.length-1)++[ds[ds.length-1]]:=by{grind [List.take_succ_eq_append_getElem,Nat.sub_add_cancel,List.take_length]};have b:=h.last u;rw [a,eQ];simp only [bO,fY];simp only [ë,è,Qc4];rw [ğ ω,Qm8 u];have:4294967296^(ds.length-1)*1<=4294967296^(ds.length-1)*(ds[ds.length-1]+4294967296*0):=Ņ _ ω;omega
theorem aP {n k:Nat}:(ah n).length<=k↔n<4294967296^k:=by constructor;{grind [iG,aN,af,Nat.lt_of_lt_of_le,Nat.pow_le_pow_right]};{intro h;rcases Ē k (ah n).length with a|a;{have:=T8 (lD n);rw [af] at this;have b:4294967296^k<=4294967296^((ah n).length-1):=ĵ ω ω;omega};{exact a}}
theorem yk {k:Nat}:k<(ah n).length↔4294967296^k<=n:=by have:=@aP n k;omega
theorem jd (ds:zA Nat)(i:Nat)(h:i<ds.length):val ds=val (ds.take i)+4294967296^i*(ds[i]+4294967296*val (ds.drop (i+1))):=by have a:val ds=val (ds.take i++ds.drop i):=by{rw [Qj6]};grind [eQ,List.drop_eq_getElem_cons,bO]
theorem my {b:zA Nat}{i:Nat}(u:cM a)(hi:i<a.length)(y:i<b.length)(z:a.drop (i+1)=b.drop (i+1))(D:a[i]<b[i]):val a<val b:=by rw [jd a i hi,jd b i y,z];have c:=iG (u.take i);simp only [è,ğ (Qr7 hi)] at c;have d:4294967296^i*(a[i]+4294967296*val (b.drop (i+1))+1)<=4294967296^i*(b[i]+4294967296*val (b.drop (i+1))):=Ņ _ ω;grind
theorem nK {a b:Nat}(h:(ah a).length<(ah b).length:=by omega):a<b:=by have c:=iG (aN a);have d:=T8 (lD b);rw [af] at c d;have e:4294967296^(ah a).length<=4294967296^((ah b).length-1):=ĵ ω ω;omega
def nu (a b:Nat):Int:=if a<b then -1 else if b<a then 1 else 0
theorem aQ {a b:Nat}(h:a<=b:=by omega):(ah a).length<=(ah b).length:=by rcases Ē (ah b).length (ah a).length with c|c;{have:=nK c;omega};{exact c}
theorem bH (h:cM ds):(ah (val ds)).length<=ds.length:=by rw [<-a_ h];exact nS ds
theorem Vd (h:n<4294967296)(u:n≠0:=by omega):ah n=[n]:=by have:yJ [n]:=by{simp [yJ,cX,u]};have:=Bc (by simp [cM];exact h) this;simpa using this
end Go.Big
namespace Go.Eng
open Go.Big
variable{ds:List Nat}{p:OA}{c n:Nat}{V:Ó}
theorem ao {x:Int}(h:-9223372036854775808<=x/\x<=9223372036854775807):i64.wrap x=x:=IntWalk.i64_in x h
theorem br {x:Int}(h:0<=x/\x<=18446744073709551615):u64.wrap x=x:=IntWalk.u64_in x h
theorem vZ {x:Int}(h:0<=x/\x<=4294967295):u32.wrap x=x:=IntWalk.u32_in x h
theorem kz (x:Int):u32.wrap x=x%4294967296:=by rw [IntKind.wrap_u32]
theorem y_ (x:Int):u64.wrap x=x%18446744073709551616:=by rw [IntKind.wrap_u64]
theorem vT {x:Int}:x.fdiv (2^32)=x / 4294967296:=by rw [Wx5 _ φ];rfl
theorem TQ {x:Int}:x.fdiv (2^63)=x / 9223372036854775808:=by rw [Wx5 _ φ];rfl
theorem JD (a b:Nat)(u:a<4294967296)(y:b<4294967296):bY .or .u64 ((a:Int)*4294967296) (b:Int)=(a:Int)*4294967296+b:=by have c:((a:Int)*4294967296)=((a*2^32:Nat):Int):=ψ;rw [bY,c,y_];have d:(BitVec.ofInt IntKind.u64.bits ((a*2^32:Nat):Int) ||| BitVec.ofInt IntKind.u64.bits (b:Int)).toNat=a*2^32+b:=by{show (BitVec.ofInt 64 ((a*2^32:Nat):Int) ||| BitVec.ofInt 64 (b:Int)).toNat=_;rw [ŝ,ŝ,Wk3,ř,ř,Ģ ω,Ģ ω];have:=Wq0 (b:=b) (i:=32) ω a;grind [Nat.shiftLeft_eq]};omega
def aM (ds:List Nat):List Value:=ds.map λ(d:Nat)=>Value.int .u32 (d:Int)
@[simp] theorem u32s_len (ds:List Nat):(aM ds).length=ds.length:=by simp [aM]
theorem bS (ds:zA Nat)(i x:Nat):(aM ds).set i (Ô .u32 (x:Int))=aM (ds.set i x):=by simp [aM]
theorem dQ (n:Nat):List.replicate n (Value.int .u32 0)=aM (List.replicate n 0):=by simp [aM]
theorem iE {i:Nat}(h:i<ds.length):(aM ds)[i]?=some (Ô .u32 (ds[i]:Int)):=by simp [aM,h]
theorem FZ (ds:zA Nat)(k:Nat):aM (ds.take k)=(aM ds).take k:=by simp [aM,Wy9]
theorem Qh (ds:zA Nat)(k:Nat):aM (ds.drop k)=(aM ds).drop k:=by simp [aM,Wz0]
theorem yG (a b:zA Nat):aM (a++b)=aM a++aM b:=by simp [aM]
theorem Ó.Le.sl {V V':ut}(h:V.Le V'){a:OA}{xs:zA un}(u:V.sl a xs):V'.sl a xs:=
 λi v b=>let ⟨ad,e,y⟩:=u i v b;⟨ad,e,h.at y⟩
structure RD (V:Ó) (p:OA) (n c:Nat) (ds:List Nat):Prop where
 len:n=ds.length
 cap:n<=c
 sl:V.sl p (aM ds)
 gg:cM ds
 Jv:p.isNone=true->c=0
theorem RD.le {V V':ut}(h:RD V p n c ds)(l:V.Le V'):RD V' p n c ds:=⟨h.len,h.cap,l.sl h.sl,h.gg,h.Jv⟩
theorem RD.nil {V:ut}:RD V none 0 0 []:=⟨rfl,Ù _,λi v h=>by simp [aM] at h,cM.nil,λ_=>rfl⟩
theorem RD.take (h:RD V p n c ds){k:Nat}(u:k<=n):RD V p k c (ds.take k):=by have:=h.len;refine ⟨by simp;omega,by have:=h.cap;omega,λi v a=>h.sl i v ?_,h.gg.take k,h.Jv⟩<;>grind [FZ]
theorem RD.rd (h:RD V p n c ds){i:Int}{K:Int->Prop}(j:Nat)(u:i=j)(y:j<ds.length)(z:K ((ds[j]:Nat):Int)):(p.isSome=true)/\(0<=i/\i<(n:Int))/\∃x:Int,(∃a,ae p (i.toNat*1)=some a/\V.at a (Ô .u32 x))/\K x:=by have ⟨b,e,d⟩:=h.sl j _ (iE y);have:=h.len;subst u;refine ⟨by rw [e];rfl,⟨ω,ω⟩,_,⟨b.add j,?_,d⟩,z⟩;rw [e];simp [ae]
theorem dD {b:Nat}{xs:zA un}{ty:TypeId}{m:Nat×Nat}(h:V.aW b (.cells xs.toArray ty m)){i:Nat}{v:un}(u:xs[i]?=some v):V.at ⟨b,i,none⟩ v:=by refine ⟨h.1,?_⟩;unfold World.cell?;rw [h.2];simpa using u
theorem add_zero' (b i:Nat):(⟨b,0,none⟩:Addr).add i=⟨b,i,none⟩:=by unfold Addr.add;split;{rename_i h;simp_all};{simp}
theorem RD.aW {b:Nat}{ds:zA Nat}{ty:TypeId}{m:Nat×Nat}(h:V.aW b (.cells (aM ds).toArray ty m))(u:cM ds)(y:n=ds.length)(z:n<=c):RD V (some ⟨b,0,none⟩) n c ds:=
 ⟨y,z,λi v a=>⟨_,rfl,by rw [add_zero'];exact dD h a⟩,u,λe=>nomatch e⟩
end Go.Eng
namespace Go.Proofs.Tryz
open Go.Eng Go.Big
variable{V:Ó}{p q:OA}{c e m n:Nat}{ds xa xb:List Nat}
theorem bw (h:RD V p n c ds)(hm:ds.length<=4611686018427387904:=by omega):À 253 #[dB p n c] V λr W=>∃k,r=dB p k c/\RD W p k c (cX ds):=by refine Ky V _ ?_;refine ⟨λz V'=>z.1=p/\z.2.2=c/\z.2.1<=ds.length/\cX (ds.take z.2.1)=cX ds/\RD V' p z.2.1 c (ds.take z.2.1),λz=>z.2.1,⟨(p,n,c),⟨rfl,rfl,rfl⟩,rfl,rfl,?_⟩,?_⟩;{have:=h.len;subst this;simp;exact h};{rintro ⟨q,k,i⟩ l m ⟨rfl,rfl,j,e,d⟩;dsimp only at j e d ⊢;refine ⟨rfl,λa=>?_,λa=>?_⟩;{have a:0<k:=by{simpa using a};simp (disch:=omega) only [ao];have o:(ds.take k).length=k:=by{simp;omega};have f:ds.take k=ds.take (k-1)++[ds[k-1]]:=by{rw [<-Qz1 ω,Qm8 a]};refine d.rd (k-1) ω ω ⟨λb=>?_,λb=>?_⟩;{have b:ds[k-1]=0:=by{simpa using b};refine ⟨⟨ω,by have:=d.cap;omega⟩,(q,k-1,i),by dsimp only;omega,⟨rfl,by dsimp only;omega,rfl⟩,rfl,rfl,by dsimp only;omega,?_,?_⟩;{dsimp only;rw [<-e,f,b,jX]};{have:=d.take (k:=k-1) ω;dsimp only;rwa [Qt3,ğ ω] at this}};{have b:ds[k-1]≠0:=by{simpa using b};refine λV2 g=>⟨k,rfl,?_⟩;rw [<-e,f,uo _ _ b,<-f];exact ra}};{have a:k=0:=by{simpa using a};subst a;refine λV2 g=>⟨0,rfl,?_⟩;rw [<-e];exact d.le g}}
theorem qf (h:RD V p n c ds)(hm:ds.length<=2^40:=by omega):À 289 #[dB p n c] V λr W=>∃q k y,r=dB q k y/\RD W q k y ds:=by have g:=h.len;refine zT V _ ⟨λf m o=>⟨_,_,_,rfl,?_⟩,λf=>⟨aM ds,h.sl,by simp [g],ω,ω,ψ,by simp [g],?_,?_⟩⟩;{have f:p=none:=by{simpa using f};subst f;have:ds=[]:=by{rcases Ĵ ds.length with e|e;{exact ĝ.1 e};{obtain ⟨s,e,-⟩:=h.sl 0 _ (iE e);cases e}};subst this;exact RD.nil};{intro v a;simp only [aM,ă] at a;obtain ⟨d,-,rfl⟩:=a;rfl};{intro t J sp y j u m o b l;refine ⟨_,_,_,rfl,?_⟩;simp only [Ĉ,Ŗ,Qd2,Ŏ] at l j ⊢;exact ⟨g,j,λi v a=>⟨_,rfl,by rw [add_zero'];exact dD l (by rw [į (by rcases Ē i (aM ds).length with e|e;exact e;rw [ţ e] at a;cases a)];exact a)⟩,h.gg,λe=>nomatch e⟩}
abbrev RN (V:Ó)(p:OA)(n c:Nat)(x:Nat):Prop:=RD V p n c (ah x)
theorem kU (h:RD V p n c ds)(hm:ds.length<=2^40):À 249 #[dB p n c] V λr W=>∃q k u,r=dB q k u/\RN W q k u (val ds):=by refine Ku V _ λa b=>(bw ra).s ?_;rintro r V2 d ⟨k,rfl,e⟩;refine ⟨_,_,_,rfl,λf g=>(qf ra (by have:=nS ds;omega)).s ?_⟩;rintro r i j ⟨q,l,u,rfl,m⟩;refine ⟨_,_,_,rfl,λo s=>⟨_,_,_,rfl,?_⟩⟩;unfold RN;rw [<-a_ h.gg];exact ra
theorem Gj (h:RD V p n c ds)(hm:ds.length<=2^40):À 297 #[dB p n c] V λr W=>r=Õ (decide (ah (val ds)=ds)):=by have d:=h.len;refine Ek V _ ⟨λa e f=>?_,λa=>?_⟩;{have:ds=[]:=ĝ.1 (by simp at a;omega);subst this;rfl};{have a:0<n:=by{simp at a;omega};simp (disch:=omega) only [ao];refine h.rd (n-1) ω ω λe f=>?_;congr 1;rw [ķ];simp only [bne_iff_ne,ne_eq,Ñ];subst d;constructor;{intro b;exact Bc h.gg (Jw λ_=>by simpa using b)};{intro he b;have:yJ ds:=by{rw [<-he];exact lD _};exact this.last ω (by simpa using b)}}
theorem fD (u:Int)(z:0<=u)(D:u<18446744073709551616:=by omega):À 254 #[Ô .u64 u] V λr W=>∃q k y,r=dB q k y/\RN W q k y u.toNat:=by obtain ⟨u,rfl⟩:=ċ z;refine zF V _ ⟨ω,λe g f a=>?_⟩;rw [vT,kz,vZ ω] at a;have a:e.aW f (.cells (aM [u%4294967296,u / 4294967296]).toArray 269 (0,0)):=by{simpa [aM] using a};have b:cM [u%4294967296,u / 4294967296]:=by{simp [cM];omega};refine (bw (RD.aW a b (n:=2) (c:=2) rfl (Ù _)) ψ).s ?_;rintro r V2 h ⟨k,rfl,d⟩;refine ⟨_,_,_,rfl,λ_ i j=>⟨_,_,_,rfl,?_⟩⟩;rw [a_ b] at d;have:val [u%4294967296,u / 4294967296]=(u:Int).toNat:=by{simp;omega};rw [this] at d;exact ra
theorem E0 (N:RD V p n c xa)(O:RD V q m e xb)(hm:xa.length<=2^40)(Z:xb.length<=2^40:=by omega):À 288 #[dB p n c,dB q m e] V λr W=>r=Ô .i64 (nu (val xa) (val xb)):=by have la:=nS xa;have lb:=nS xb;refine MJ V _ λH I=>(bw ra).s ?_;rintro r V2 J ⟨n,rfl,g⟩;refine ⟨_,_,_,rfl,λK B=>(bw ra).s ?_⟩;rintro r L C ⟨m,rfl,j⟩;refine ⟨_,_,_,rfl,?_⟩;replace g:=g.le (B.m C);rw [a_ N.gg] at g la;rw [a_ O.gg] at j lb;generalize val xa=x at *;generalize val xb=y at *;have D:=g.len;have E:=j.len;refine ⟨λh=>⟨λd w A=>?_,λd w A=>?_⟩,λh=>?_⟩;{have:=nK (a:=x) (b:=y) (by simp at d;omega);rw [nu,Ä this]};{have:=nK (a:=y) (b:=x) (by simp at h d;omega);rw [nu,Ã ω,Ä this]};{have h:n=m:=by{simp at h;omega};subst h;simp (disch:=omega) only [ao];refine ⟨λz V'=>-1<=z/\z<n/\(ah x).drop (z+1).toNat=(ah y).drop (z+1).toNat,λz=>(z+1).toNat,⟨_,η,ω,ω,?_⟩,?_⟩;{(try dsimp only);rw [ļ ω,ļ ω]};{rintro i M k ⟨o,s,t⟩;dsimp only at o s t ⊢;refine ⟨θ,λd=>?_,λd w A=>?_⟩;{have d:0<=i:=by{simpa using d};obtain ⟨i,rfl⟩:=ċ d;simp (disch:=omega) only [ao];have f:(ah x).drop (i+1)=(ah y).drop (i+1):=t;refine (g.le k).rd i rfl ω ((j.le k).rd i rfl ω ⟨λu F G=>?_,λu=>?_⟩);{have:=my (aN x) ω ω f (by simpa using u);rw [af,af] at this;rw [nu,Ä this]};{refine (g.le k).rd i rfl ω ((j.le k).rd i rfl ω ⟨λv F G=>?_,λv=>?_⟩);{have:=my (aN y) ω ω f.symm (by simpa using v);rw [af,af] at this;rw [nu,Ã ω,Ä this]};{refine ⟨_,?_,η,?_,?_,?_⟩;{(try dsimp only);omega};{(try dsimp only);omega};{(try dsimp only);omega};{(try dsimp only);have:((i:Int)-1+1).toNat=i:=ω;rw [this,Ĥ ω,Ĥ (l:=ah y) ω,f];congr 1;simp at u v;omega}}}};{have d:i=-1:=by{simp at d;omega};subst d;have:ah x=ah y:=by{simpa using t};have:=vg this;subst this;simp [nu]}}}
theorem At {E A B c d x y W:Nat}(h:E+W*c=A+B)(u:d=c+x+y:=by omega):E+W*(d%4294967296)+W*4294967296*(d / 4294967296)=A+W*x+(B+W*y):=by have a:W*(d%4294967296)+W*4294967296*(d / 4294967296)=W*d:=by{rw [ń,<-ĭ,Qg6]};rw [ň,a,u,ĭ,ĭ];omega
theorem OX (ha:RD V p n c xa)(hb:RD V q m e xb)(hm:xa.length<=2^40)(hn:xb.length<=2^40):À 304 #[dB p n c,dB q m e] V λr W=>∃p' n' c',r=dB p' n' c'/\RN W p' n' c' (val xa+val xb):=by
 have B:=ha.len;have C:=hb.len;refine MI V _ ⟨λz V'=>∃xs b,RD V' z.1 z.2.1 z.2.2.1 xs/\RD V' z.2.2.2.1 z.2.2.2.2.1 z.2.2.2.2.2 b/\b.length<=xs.length/\xs.length<=2^40/\val xs+val b=val xa+val xb,⟨λD=>?_,λD=>?_⟩,?_⟩
 ·exact ⟨(_,_,_,_,_,_),η,xb,xa,hb,ha,by simp at D;omega,hn,ω⟩
 ·exact ⟨(_,_,_,_,_,_),η,xa,xb,ha,hb,by simp at D;omega,hm,rfl⟩
 ·rintro ⟨p,n,c,q,m,e⟩ N O ⟨xs,b,x,A,P,hm,g⟩;dsimp only at x A ⊢;rw [<-g];clear g ha hb B C;have L:=x.len;have Q:=A.len;simp (disch:=omega) only [ao,dQ];have E:((n:Int)+1).toNat=n+1:=ω
  rw [E]
  refine ⟨θ,ω,ω,ω,λz V'=>0<=z.1/\z.1<=1/\0<=z.2.1/\z.2.1<=n/\∃es:zA Nat,z.2.2=aM es/\es.length=n+1/\cM es /\
   val (es.take z.2.1.toNat)+4294967296^z.2.1.toNat*z.1.toNat=val (xs.take z.2.1.toNat)+val (b.take z.2.1.toNat),λz=>n-z.2.1.toNat,⟨(0,0,aM (List.replicate (n+1) 0)),η,by (try dsimp only);omega,by (try dsimp only);omega,by (try dsimp only);omega,by (try dsimp only);omega,_,rfl,ψ,cM.rep _,ψ⟩,?_⟩
  rintro ⟨f,i,R⟩ V2 K ⟨o,F,s,G,es,rfl,H,t,g⟩;dsimp only at o F s G g ⊢;obtain ⟨i,rfl⟩:=ċ s;obtain ⟨f,rfl⟩:=ċ o;simp only [Ü] at g;refine ⟨θ,λl=>?_,λl=>?_⟩
  ·have l:i<n:=by simpa using l
   refine (x.le K).rd i rfl ω ?_;have S:=x.gg.get (i:=i) ω
   have next:∀d:Nat,d<8589934592->val (es.take i)+4294967296^i*(d%4294967296)+4294967296^i*4294967296*(d / 4294967296)=val (xs.take (i+1))+val (b.take (i+1)) ->
     ∃a:zA Nat,(aM es).set i (Ô .u32 ((d%4294967296:Nat):Int))=aM a/\a.length=n+1/\cM a /\
     val (a.take (i+1))+4294967296^(i+1)*(d / 4294967296)=val (xs.take (i+1))+val (b.take (i+1)):=by
    intro d T he;refine ⟨es.set i (d%4294967296),bS _ _ _,by simpa using H,t.set _ _ ω,?_⟩;rw [aU _ _ _,ġ];exact he
   refine ⟨λh=>?_,λh=>?_⟩
   ·have h:i<m:=by{simpa using h};refine (A.le K).rd i rfl ω ?_;have M:=A.gg.get (i:=i) ω;simp (disch:=omega) only [br,ao,kz,vT];refine ⟨⟨ω,ω⟩,by simp;omega,ω,(_,_,_),?_,η,?_⟩;{(try dsimp only);omega};{(try dsimp only);have j:((i:Int)+1).toNat=i+1:=ω;have ⟨a,u,v,I,J⟩:=next (f+xs[i]+b[i]) ω (by rw [aA _ _,aA _ _];exact At g rfl);refine ⟨ω,ω,ω,ω,a,?_,v,I,?_⟩;{rw [<-u];simp};{rw [j,<-J];congr 2}}
   ·have h:m<=i:=by simpa using h
    simp (disch:=omega) only [br,ao,kz,vT];refine ⟨⟨ω,ω⟩,by simp;omega,ω,(_,_,_),?_,η,?_⟩
    ·(try dsimp only);omega
    ·(try dsimp only)
     have j:((i:Int)+1).toNat=i+1:=ω
     have ⟨a,u,v,I,J⟩:=next (f+xs[i]) ω (by
      rw [aA _ _,aq (ds:=b) (i:=i+1)];have:=At (y:=0) g (d:=f+xs[i]) rfl
      rwa [aq (ds:=b),Ĩ,ě] at this)
     refine ⟨ω,ω,ω,ω,a,?_,v,I,?_⟩
     ·rw [<-u];simp
     ·rw [j,<-J];congr 2
  ·have l:i=n:=by{simp at l;omega};subst l;simp (disch:=omega) only [vZ];refine ⟨⟨ω,ω⟩,by simp;omega,λU W X hb=>?_⟩;have u:(aM es).set (0+((i:Int).toNat)*1) (Ô .u32 (f:Int))=aM (es.set i f):=by{rw [<-bS];simp};rw [u] at hb;have w:=t.set i f ω;refine (bw (RD.aW hb w (n:=i+1) (c:=i+1) (by simp;omega) (Ù _)) (by simp;omega)).s ?_;rintro r Y Z ⟨k,rfl,h⟩;refine ⟨_,_,_,rfl,λ_ V5 l5=>⟨_,_,_,rfl,?_⟩⟩;rw [a_ w] at h;have v:val (es.set i f)=val xs+val b:=by{have:=aU es i f;rw [aq (by simp;omega)] at this;rw [this,g,aq,aq]};rw [v] at h;exact ra
theorem TZ {E A B x y W:Nat}(h:E+B=A+W*c){v:Int}(u:c<=1)(z:x<4294967296)(D:y<4294967296)(F:v=((x:Int)-(c+y))%18446744073709551616):0<=v/\v / 9223372036854775808<=1/\0<=v / 9223372036854775808/\E+W*(v%4294967296).toNat+(B+W*y)=A+W*x+W*4294967296*(v / 9223372036854775808).toNat:=by rcases Ē x (c+y) with d|d;{have e:v=18446744073709551616+(x:Int)-(c+y):=ω;have a:(v / 9223372036854775808).toNat=1:=ω;have b:(v%4294967296).toNat+(c+y)=x+4294967296:=ω;refine ⟨ω,ω,ω,?_⟩;rw [a,Ĝ];have:=Æ (W*·) b;simp only [ĭ] at this;omega};{have e:v=(x:Int)-(c+y):=ω;have a:(v / 9223372036854775808).toNat=0:=ω;have b:(v%4294967296).toNat+(c+y)=x:=ω;refine ⟨ω,ω,ω,?_⟩;rw [a,Ĩ,ě];have:=Æ (W*·) b;simp only [ĭ] at this;omega}
theorem Ll {xs ys:zA Nat}(Z:RD V p n c xs)(hy:RD V q m e ys)(hm:xs.length<=2^40)(hl:ys.length<=xs.length)(hle:val ys<=val xs):À 321 #[dB p n c,dB q m e] V λr W=>∃p' n' c',r=dB p' n' c'/\RN W p' n' c' (val xs-val ys):=by
 have D:=Z.len;have N:=hy.len
 refine Kw V _ ⟨ω,ω,ω,λz V'=>0<=z.1/\z.1<=1/\0<=z.2.1/\z.2.1<=n/\∃es:zA Nat,z.2.2=aM es/\es.length=n/\cM es /\
   val (es.take z.2.1.toNat)+val (ys.take z.2.1.toNat)=val (xs.take z.2.1.toNat)+4294967296^z.2.1.toNat*z.1.toNat,λz=>n-z.2.1.toNat,
   ⟨(0,0,List.replicate n (Ô .u32 0)),η,by (try dsimp only);omega,by (try dsimp only);omega,by (try dsimp only);omega,by (try dsimp only);omega,List.replicate n 0,dQ n,ψ,cM.rep _,ψ⟩,?_⟩
 rintro ⟨j,i,O⟩ V2 B ⟨l,u,o,w,es,rfl,d,a,s⟩;dsimp only at l u o w s ⊢;obtain ⟨i,rfl⟩:=ċ o;obtain ⟨j,rfl⟩:=ċ l;simp only [Ü] at s;refine ⟨θ,λf=>?_,λf=>?_⟩
 ·have f:i<n:=by{simpa using f};refine (Z.le B).rd i rfl ω ?_;have E:=Z.gg.get (i:=i) ω;refine ⟨λz V'=>∃y:Nat,z=j+y/\y<4294967296/\val (ys.take (i+1))=val (ys.take i)+4294967296^i*y,⟨λb=>?_,λb=>?_⟩,?_⟩;{have b:i<m:=by{simpa using b};refine (hy.le B).rd i rfl ω ?_;have g:=hy.gg.get (i:=i) ω;simp (disch:=omega) only [br];exact ⟨_,η,ys[i],rfl,g,aA _ _⟩};{have b:m<=i:=by{simpa using b};exact ⟨_,η,0,ψ,ω,by rw [aq,aq];simp⟩};{rintro t F G ⟨y,rfl,g,x⟩;refine ⟨θ,⟨ω,by simpa using f⟩,by simp;omega,ω,?_⟩;simp (disch:=omega) only [br,ao,y_,kz,TQ];obtain ⟨v,C⟩:∃v:Int,v=((xs[i]:Int)-((j:Int)+(y:Int)))%18446744073709551616:=⟨_,rfl⟩;have ⟨P,H,I,J⟩:=TZ s ω E g C;rw [<-C];refine ⟨(_,_,_),?_,η,?_⟩;{(try dsimp only);omega};{(try dsimp only);have A:((i:Int)+1).toNat=i+1:=ω;refine ⟨I,H,ω,ω,es.set i (v%4294967296).toNat,?_,by simpa using d,a.set _ _ ω,?_⟩;{rw [<-bS];congr 2;{simp};{omega}};{rw [A,aU _ _ _,x,J,aA _ _,ġ]}}}
 ·have f:i=n:=by{simp at f;omega};subst f;intro F G Q K;refine (bw (RD.aW K a (n:=i) (c:=i) d.symm (Ù _))).s ?_;rintro r R S ⟨k,rfl,b⟩;refine ⟨_,_,_,rfl,λ_ T U=>⟨_,_,_,rfl,?_⟩⟩;rw [a_ a] at b;rw [aq,aq,aq] at s;have L:=iG a;rw [d] at L;have M:j=0:=by{rcases Ĵ j with h|h;{exact h};{have:4294967296^i*1<=4294967296^i*j:=Ņ _ h;omega}};subst M;rw [show val es=val xs-val ys from by omega] at b;exact ra
theorem ir {a b:Nat}:nu a b<0↔a<b:=by unfold nu;split;{simp;omega};{split<;>simp<;>omega}
theorem nw {a b:Nat}:nu a b=0↔a=b:=by unfold nu;split;{simp;omega};{split;{simp;omega};{simp;omega}}
theorem E3 (E:RD V p n c xa)(O:RD V q m e xb)(hm:xa.length<=2^40)(Z:xb.length<=2^40):À 305 #[dB p n c,dB q m e] V λr W=>∃F M N,r=æ #[dB F M N,Õ (decide (val xb<=val xa))]/\RN W F M N (val xa-val xb):=by refine MO V _ λj b=>(E0 ra ra hm Z).s ?_;rintro r V2 k rfl;refine ⟨_,rfl,λa d f=>?_,λa d f=>?_⟩;{have a:val xa<val xb:=by{simpa [ir] using a};rw [Nat.sub_eq_zero_of_le ω,È ω];exact ⟨_,_,_,rfl,RD.nil⟩};{have a:val xb<=val xa:=by{simpa [<-Ww0,ir] using a};rw [Ç a];refine (bw ((E.le b).le au)).s ?_;rintro r l o ⟨s,rfl,g⟩;refine ⟨_,_,_,rfl,λt u=>(bw ((O.le b).le au)).s ?_⟩;rintro r v w ⟨x,rfl,h⟩;rw [a_ E.gg] at g;rw [a_ O.gg] at h;have:=bH E.gg;refine ⟨_,_,_,rfl,λy z=>(Ll ra ra ω (aQ a) (by rw [af,af];exact a)).s ?_⟩;rintro r A B ⟨F,M,N,rfl,i⟩;rw [af,af] at i;exact ⟨_,_,_,rfl,λC D=>⟨_,_,_,rfl,ra⟩⟩}
end Go.Proofs.Tryz
namespace Go.Proofs.Tryz
open Go.Eng Go.Shelf
def mX {k : Nat}{f B : Func}(h : prog.funcs[k]? = some f)(u : (f.name == "runtime.NumGoroutine") = false := by kernel_rfl)(e : f = { B with name := f.name } := by kernel_rfl) : Bears prog k B := ⟨_, u, h.m (Æ some e)⟩
def H2 {k:Nat}{f B:Func}(h:prog.funcs[k]?=some f)(e:f=B:=by kernel_rfl):prog.funcs[k]?=some B:=h.m (Æ some e)
abbrev Zr:Ren:=⟨λ|6=>35|15=>92|14=>91|28=>179|29=>180|20=>171|21=>172|22=>173|23=>174|24=>175|25=>176|26=>177|27=>178|46=>235|47=>236|48=>237|49=>238|50=>239|57=>285|n=>n,λ|22=>90|24=>103|25=>106|3=>3|39=>183|0=>0|53=>269|55=>271|4=>4|46=>262|45=>261|50=>266|5=>5|9=>9|66=>320|70=>324|76=>365|77=>366|n=>n,λn=>n⟩
def FK:SlLaysF0.n6 prog Zr:=
 ⟨ζ,mX func35,mX func91,H2 func92,mX func171,mX func172,mX func173,mX func174,mX func175,mX func176,mX func177,mX func178,H2 func179,H2 func180,mX func235,H2 func236,H2 func237,mX func238,mX func239,mX func285,underlying0,isAgg0,sizeOf0,zeroValue0,underlying3,isAgg3,sizeOf3,zeroValue3,underlying4,isAgg4,sizeOf4,zeroValue4,underlying5,isAgg5,sizeOf5,zeroValue5,underlying9,isAgg9,sizeOf9,zeroValue9,underlying90,isAgg90,sizeOf90,zeroValue90,underlying106,isAgg106,sizeOf106,zeroValue106,underlying183,isAgg183,sizeOf183,zeroValue183,underlying261,isAgg261,sizeOf261,zeroValue261,underlying262,isAgg262,sizeOf262,zeroValue262,underlying266,isAgg266,sizeOf266,zeroValue266,underlying269,isAgg269,sizeOf269,zeroValue269,underlying271,isAgg271,sizeOf271,zeroValue271,underlying320,isAgg320,sizeOf320,zeroValue320,underlying324,isAgg324,sizeOf324,zeroValue324,underlying365,isAgg365,sizeOf365,zeroValue365,underlying366,isAgg366,sizeOf366,zeroValue366⟩
def aggP:∀w,(isAgg (Zr.t 24)).run prog w=.ok true w:=isAgg103
def sizP:∀w,(Go.sizeOf (Zr.t 24)).run prog w=.ok 6 w:=sizeOf103
abbrev Zq:Ren:=⟨λ|6=>159|15=>92|14=>226|28=>179|29=>180|20=>269|21=>270|22=>271|23=>272|24=>273|25=>274|26=>275|27=>276|46=>298|47=>236|48=>237|49=>299|50=>300|57=>308|n=>n,λ|22=>171|24=>95|25=>248|3=>3|39=>183|0=>0|53=>269|55=>271|4=>4|46=>262|45=>261|50=>266|5=>5|9=>9|66=>320|70=>324|76=>365|77=>366|n=>n,λn=>n⟩
def FJ:SlLaysF0.n6 prog Zq:=
 ⟨ζ,mX func159,mX func226,H2 func92,mX func269,mX func270,mX func271,mX func272,mX func273,mX func274,mX func275,mX func276,H2 func179,H2 func180,mX func298,H2 func236,H2 func237,mX func299,mX func300,mX func308,underlying0,isAgg0,sizeOf0,zeroValue0,underlying3,isAgg3,sizeOf3,zeroValue3,underlying4,isAgg4,sizeOf4,zeroValue4,underlying5,isAgg5,sizeOf5,zeroValue5,underlying9,isAgg9,sizeOf9,zeroValue9,underlying171,isAgg171,sizeOf171,zeroValue171,underlying248,isAgg248,sizeOf248,zeroValue248,underlying183,isAgg183,sizeOf183,zeroValue183,underlying261,isAgg261,sizeOf261,zeroValue261,underlying262,isAgg262,sizeOf262,zeroValue262,underlying266,isAgg266,sizeOf266,zeroValue266,underlying269,isAgg269,sizeOf269,zeroValue269,underlying271,isAgg271,sizeOf271,zeroValue271,underlying320,isAgg320,sizeOf320,zeroValue320,underlying324,isAgg324,sizeOf324,zeroValue324,underlying365,isAgg365,sizeOf365,zeroValue365,underlying366,isAgg366,sizeOf366,zeroValue366⟩
def aggL:∀w,(isAgg (Zq.t 24)).run prog w=.ok true w:=isAgg95
def sizL:∀w,(Go.sizeOf (Zq.t 24)).run prog w=.ok 9 w:=sizeOf95
abbrev Zp:Ren:=⟨λ|6=>279|15=>92|14=>302|28=>179|29=>180|20=>312|21=>313|22=>314|23=>315|24=>316|25=>317|26=>318|27=>319|46=>322|47=>236|48=>237|49=>323|50=>324|57=>325|n=>n,λ|22=>357|24=>360|25=>362|3=>3|39=>183|0=>0|53=>269|55=>271|4=>4|46=>262|45=>261|50=>266|5=>5|9=>9|66=>320|70=>324|76=>365|77=>366|n=>n,λn=>n⟩
def FH:SlLaysF0.n6 prog Zp:=
 ⟨ζ,mX func279,mX func302,H2 func92,mX func312,mX func313,mX func314,mX func315,mX func316,mX func317,mX func318,mX func319,H2 func179,H2 func180,mX func322,H2 func236,H2 func237,mX func323,mX func324,mX func325,underlying0,isAgg0,sizeOf0,zeroValue0,underlying3,isAgg3,sizeOf3,zeroValue3,underlying4,isAgg4,sizeOf4,zeroValue4,underlying5,isAgg5,sizeOf5,zeroValue5,underlying9,isAgg9,sizeOf9,zeroValue9,underlying357,isAgg357,sizeOf357,zeroValue357,underlying362,isAgg362,sizeOf362,zeroValue362,underlying183,isAgg183,sizeOf183,zeroValue183,underlying261,isAgg261,sizeOf261,zeroValue261,underlying262,isAgg262,sizeOf262,zeroValue262,underlying266,isAgg266,sizeOf266,zeroValue266,underlying269,isAgg269,sizeOf269,zeroValue269,underlying271,isAgg271,sizeOf271,zeroValue271,underlying320,isAgg320,sizeOf320,zeroValue320,underlying324,isAgg324,sizeOf324,zeroValue324,underlying365,isAgg365,sizeOf365,zeroValue365,underlying366,isAgg366,sizeOf366,zeroValue366⟩
def aggC:∀w,(isAgg (Zp.t 24)).run prog w=.ok true w:=isAgg360
def sizC:∀w,(Go.sizeOf (Zp.t 24)).run prog w=.ok 5 w:=sizeOf360
abbrev Su:Ren:=⟨λ|133=>257|128=>179|n=>n,λ|51=>269|3=>3|4=>4|46=>183|5=>5|9=>9|n=>n,λn=>n⟩
def Jr:Lays.n133 prog Su:=
 ⟨ζ,H2 func179,H2 func257,underlying3,isAgg3,sizeOf3,zeroValue3,underlying4,isAgg4,sizeOf4,zeroValue4,underlying5,isAgg5,sizeOf5,zeroValue5,underlying9,isAgg9,sizeOf9,zeroValue9,underlying183,isAgg183,sizeOf183,zeroValue183,underlying269,isAgg269,sizeOf269,zeroValue269⟩
abbrev Pz:Ren:=⟨λ|264=>292|n=>n,λ|53=>271|46=>183|n=>n,λn=>n⟩
def Fw:Lays.n264 prog Pz:=
 ⟨ζ,H2 func292,underlying183,isAgg183,sizeOf183,zeroValue183,underlying271,isAgg271,sizeOf271,zeroValue271⟩
end Go.Proofs.Tryz
namespace Go.Big
def dK (n:Nat):Nat:=if n=0 then 0 else n.log2+1
def vA (n:Nat):n<2^dK n:=by unfold dK;split;{subst_vars;decide};{exact Nat.lt_log2_self}
def Ad {n:Nat}(h:n≠0):2^(dK n-1)<=n:=by unfold dK;rw [Ã h];exact Nat.log2_self_le h
def Ip {n b:Nat}(y:n<2^b)(u:b=0\/2^(b-1)<=n):dK n=b:=by rcases u with u|u;{subst u;have:n=0:=by{simpa using y};subst this;rfl};{have a:n≠0:=by{have:=ı (b-1);omega};have c:=vA n;have d:=Ad a;have e:¬dK n<b:=λh=>by{have:=ĵ (n:=2) ω (show dK n<=b-1 by omega);omega};have f:¬b<dK n:=λh=>by{have:=ĵ (n:=2) ω (show b<=dK n-1 by omega);omega};omega}
def me {n b:Nat}:dK n<=b↔n<2^b:=by constructor;{intro h;exact ĺ (vA n) (ĵ ω h)};{intro h;rcases Ē b (dK n) with a|a;{have c:n≠0:=by{intro e;subst e;simp [dK] at a};have:=Ad c;have:=ĵ (n:=2) ω (show b<=dK n-1 by omega);omega};{exact a}}
end Go.Big
namespace Go.Proofs.Tryz
open Go.Eng Go.Big Go.Proofs Go.Shelf
variable{V:Ó}
theorem jH (a k:Nat):((a:Nat):Int).fdiv (2^k)=((a / 2^k:Nat):Int):=χ
theorem EM {f:FuncId}{args:Array un}{V:ut}{v:un}(u:ik prog f)(h:Calls prog f args V.w λe w'=>e=.returned v/\w'=V.w):À f args V λr _=>r=v:=
 ⟨u,h.s λe w' ⟨a,b⟩=>by subst b;exact ⟨v,a,j_.refl _ _,rfl⟩⟩
theorem lt_bl:∀x:Nat,x<2^64->x<2^Lib.bitLen x:=by
 intro x
 induction x using Nat.strongRecOn<;>grind [Lib.bitLen_half]
theorem bl_eq {x:Nat}(h:x<2^64:=by omega):Lib.bitLen x=dK x:=
 Nat.le_antisymm (Lib.bitLen_le x _ (me.2 h) (vA x)) (me.2 (lt_bl x h))
theorem iN (x:Nat)(u:x<4294967296):À 257 #[Ô .u32 (x:Int)] V λr W=>r=Ô .i64 (32-(dK x:Int)):=by have h:=EM (V:=V) ⟨_,Jr.f133,rfl,ζ⟩ (Any.bits_LeadingZeros32 Jr (x:Int) V.w ω ω);rw [Ü,bl_eq] at h;exact h
theorem and64 (a:Nat)(u:a<18446744073709551616:=by omega):bY .and .u64 (a:Int) 4294967295=((a%4294967296:Nat):Int):=by rw [bY,y_];have b:(BitVec.ofInt IntKind.u64.bits ((a:Nat):Int) &&& BitVec.ofInt IntKind.u64.bits 4294967295).toNat=a%4294967296:=by{show (BitVec.ofInt 64 ((a:Nat):Int) &&& BitVec.ofInt 64 ((4294967295:Nat):Int)).toNat=_;rw [ŝ,ŝ,BitVec.toNat_and,ř,ř,Ģ ω,Ģ ω];have:=Nat.and_two_pow_sub_one_eq_mod a 32;exact this};omega
theorem UX (x y:Nat)(u:x<18446744073709551616)(z:y<18446744073709551616:=by omega):À 292 #[Ô .u64 (x:Int),Ô .u64 (y:Int)] V λr W=>r=æ #[Ô .u64 ((x*y / 18446744073709551616:Nat):Int),Ô .u64 ((x*y%18446744073709551616:Nat):Int)]:=
 EM (V:=V) ⟨_,Fw.f264,rfl,ζ⟩ (Any.bits_Mul64 Fw x y u z V.w)
theorem US (x y c:Nat)(u:x<4294967296)(z:y<4294967296)(D:c<4294967296:=by omega):À 286 #[Ô .u32 (x:Int),Ô .u32 (y:Int),Ô .u32 (c:Int)] V λr W=>r=æ #[Ô .u32 (((x+y+c)%4294967296:Nat):Int),Ô .u32 (((x+y+c) / 4294967296:Nat):Int)]:=by refine uu V _ ⟨ω,λd e=>?_⟩;simp (disch:=omega) only [br,kz,vT];have a:((x:Int)+y+c)%4294967296=(((x+y+c)%4294967296:Nat):Int):=ω;have b:((x:Int)+y+c) / 4294967296%4294967296=(((x+y+c) / 4294967296:Nat):Int):=ω;rw [a,b]
end Go.Proofs.Tryz
namespace Go.Proofs.Tryz
open Go.Eng Go.Big
variable{V:Ó}{p:OA}{c n r:Nat}{ds:List Nat}
theorem Tc (a b:Nat)(u:a<4294967296)(y:b<4294967296):bY .or .u64 (b:Int) ((a:Int)*4294967296)=(b:Int)+(a:Int)*4294967296:=by have h:bY .or .u64 (b:Int) ((a:Int)*4294967296)=bY .or .u64 ((a:Int)*4294967296) (b:Int):=by{simp only [bY,BitVec.or_comm]};rw [h,JD a b u y];omega
theorem or64z (b:Nat)(u:b<4294967296):bY .or .u64 0 (b:Int)=b:=by have:=JD 0 b ω u;simpa using this
theorem oh (h:RD V p n c ds)(hm:ds.length<=2^40:=by omega):À 247 #[dB p n c] V λr W=>r=æ #[Ô .u64 ((if val ds<18446744073709551616 then val ds else 0:Nat):Int),Õ (decide (val ds<18446744073709551616))]:=by refine Kv V _ λv w=>(bw ra).s ?_;rintro r V2 y ⟨n,rfl,e⟩;rw [a_ h.gg] at e;generalize val ds=x at *;have A:=e.len;have B:(ah x).length<=2↔x<18446744073709551616:=aP (k:=2);refine ⟨_,_,_,rfl,λa C D=>?_,λa=>?_⟩;{have a:¬x<18446744073709551616:=by{simp at a;omega};rw [Ã a,È a];rfl};{have l:x<18446744073709551616:=by{simp at a;omega};rw [Ä l,Ç l];have E:n<=2:=ω;refine ⟨λz V'=>0<=z.2/\z.2<=n/\z.1=(val ((ah x).take z.2.toNat):Int),λz=>n-z.2.toNat,⟨(0,0),by (try dsimp only);and_intros<;>trivial,ω,ω,ψ⟩,?_⟩;rintro ⟨u,i⟩ F o ⟨d,f,hu⟩;dsimp only at d f hu ⊢;subst hu;obtain ⟨i,rfl⟩:=ċ d;simp only [Ü];refine ⟨θ,λb=>?_,λb G H=>?_⟩;{have b:i<n:=by{simpa using b};refine (e.le o).rd i rfl ω ?_;have m:=(aN x).get (i:=i) ω;simp (disch:=omega) only [ao];refine ⟨ω,(_,_),?_,by (try dsimp only);and_intros<;>trivial,?_⟩;{(try dsimp only);omega};{(try dsimp only);refine ⟨ω,ω,?_⟩;have g:((i:Int)+1).toNat=i+1:=ω;rw [g,aA _ _];have q:i=0\/i=1:=ω;rcases q with rfl|rfl;{simp (disch:=omega) only [br];have j:(min ((32:Int)*((0:Nat):Int)).toNat IntKind.u64.bits)=0:=φ;rw [j];simp (disch:=omega) only [br,Int.pow_zero,Int.mul_one,Qd2,fY,Nat.pow_zero,Ŋ,Ĉ];exact or64z _ m};{have j:(min ((32:Int)*((1:Nat):Int)).toNat IntKind.u64.bits)=32:=φ;have a:0<(ah x).length:=ω;have s:(ah x).take 1=[(ah x)[0]]:=by{rw [Qz1 a];rfl};have t:((2:Int)^32)=4294967296:=φ;rw [j,s,t];simp (disch:=omega) only [br];simp only [bO,fY,Ĩ,ě];rw [Tc _ _ m ((aN x).get (i:=0) a)];omega}}};{have b:i=n:=by{simp at b;omega};subst b;rw [aq,af]}}
theorem kT (h:RD V p n c ds)(hm:ds.length<=2^40):À 244 #[dB p n c] V λr W=>r=Ô .i64 (dK (val ds):Int):=by have k:=bH h.gg;refine Kt V _ λo q=>(bw ra).s ?_;rintro r V2 s ⟨n,rfl,g⟩;rw [a_ h.gg] at g;generalize val ds=x at *;have l:=g.len;refine ⟨_,_,_,rfl,λf t u=>?_,λf=>?_⟩;{have:ah x=[]:=ĝ.1 (by simp at f;omega);have:=bR.1 this;subst this;rfl};{have f:0<n:=by{simp at f;omega};simp (disch:=omega) only [ao];refine g.rd (n-1) ω ω λv w=>(iN _ ((aN x).get ω)).s λr y z rfl=>⟨_,rfl,λA B=>?_⟩;have C:=(aN x).get (i:=n-1) ω;have a:(ah x)[n-1]≠0:=by{have:=(lD x).last ω;simpa [l] using this};have D:dK (ah x)[n-1]<=32:=me.2 ω;simp (disch:=omega) only [ao];have key:dK x=32*(n-1)+dK (ah x)[n-1]:=by{have e:=jd (ah x) (n-1) ω;rw [af,ļ ω] at e;simp only [fY,Ĩ,ě] at e;have b:=iG ((aN x).take (n-1));rw [è,ğ ω] at b;have j:(4294967296:Nat)^(n-1)=2^(32*(n-1)):=by{rw [Ww6]};rw [j] at e b;generalize (ah x)[n-1]=d at *;have m:0<dK d:=by{unfold dK;rw [Ã a];omega};refine Ip ?_ (.inr ?_);{rw [Đ];have:2^(32*(n-1))*(d+1)<=2^(32*(n-1))*2^dK d:=Ņ _ (vA d);rw [ĭ,Ĝ] at this;omega};{rw [show 32*(n-1)+dK d-1=32*(n-1)+(dK d-1) from by omega,Đ];have:2^(32*(n-1))*2^(dK d-1)<=2^(32*(n-1))*d:=Ņ _ (Ad a);omega}};rw [key];congr 1;omega}
theorem Ju {E S t x y e Y B D:Nat}(h:E+B*D*c=S+B*x*Y)(u:t=c+x*y+e):E+B*D*(t%4294967296)+B*D*4294967296*(t / 4294967296)=S+B*D*e+B*x*(Y+D*y):=by have a:B*D*(t%4294967296)+B*D*4294967296*(t / 4294967296)=B*D*t:=by{rw [ń (B*D),<-ĭ,Qg6]};rw [ň,a,u];grind
theorem iQ {q:OA}{m e:Nat}{xa xb:zA Nat}(ha:RD V p n c xa)(hb:RD V q m e xb)(hm:xa.length+xb.length<=2^40:=by omega):À 204 #[dB p n c,dB q m e] V λr W=>∃p' n' c',r=dB p' n' c'/\RN W p' n' c' (val xa*val xb):=by
 have la:=bH ha.gg;have lb:=bH hb.gg;refine ML V _ λV1 l1=>(bw ra).s ?_;rintro r V2 l2 ⟨n,rfl,o⟩;rw [a_ ha.gg] at o;refine ⟨_,_,_,rfl,λV3 Q=>(bw ra).s ?_⟩;rintro r V4 R ⟨m,rfl,E⟩;rw [a_ hb.gg] at E
 replace o:=o.le (Q.m R)
 have S:=o.len;have KX:=E.len;have u:val xa=val (ah (val xa)):=(af _).symm;have v:val xb=val (ah (val xb)):=(af _).symm;rw [u,v];clear u v;generalize ah (val xa)=xs at *;generalize ah (val xb)=ys at *;refine ⟨_,_,_,rfl,?_⟩;simp (disch:=omega) only [ao,dQ];have G:((n:Int)+m).toNat=n+m:=ω
 rw [G]
 refine ⟨ω,ω,ω,λz V'=>0<=z.1/\z.1<=n/\∃es:zA Nat,z.2=aM es/\es.length=n+m/\cM es /\
  val (es.take (z.1.toNat+m))=val (xs.take z.1.toNat)*val ys,λz=>n-z.1.toNat,⟨(0,aM (List.replicate (n+m) 0)),η,by (try dsimp only);omega,by (try dsimp only);omega,_,rfl,ψ,cM.rep _,by simp [An,Qr3]⟩,?_⟩
 rintro ⟨i,T⟩ V5 U ⟨w,H,es,rfl,I,g,y⟩;dsimp only at w H y ⊢;obtain ⟨i,rfl⟩:=ċ w;simp only [Ü] at y;refine ⟨θ,λs=>?_,λs=>?_⟩
 ·have s:i<n:=by simpa using s
  refine (o.le U).rd i rfl ω ?_;have Dr:=o.gg.get (i:=i) ω
  refine ⟨λz V'=>0<=z.1/\z.1<=4294967295/\0<=z.2.1/\z.2.1<=m/\∃a:zA Nat,z.2.2=aM a/\a.length=n+m/\cM a/\a.drop (i+z.2.1.toNat)=es.drop (i+z.2.1.toNat) /\
   val (a.take (i+z.2.1.toNat))+4294967296^(i+z.2.1.toNat)*z.1.toNat=val (es.take (i+z.2.1.toNat))+4294967296^i*xs[i]*val (ys.take z.2.1.toNat),λz=>m-z.2.1.toNat,
   ⟨(0,0,aM es),η,by (try dsimp only);omega,by (try dsimp only);omega,by (try dsimp only);omega,by (try dsimp only);omega,es,rfl,I,g,rfl,ψ⟩,?_⟩
  rintro ⟨F,k,T⟩ W X ⟨A,J,B,K,a,rfl,C,h,d,hw⟩;dsimp only at A J B K d hw ⊢;obtain ⟨k,rfl⟩:=ċ B;obtain ⟨F,rfl⟩:=ċ A;simp only [Ü] at d hw;refine ⟨θ,λf=>?_,λf=>?_⟩
  ·have f:k<m:=by{simpa using f};refine (E.le au).rd k rfl ω ?_;have Y:=E.gg.get (i:=k) ω;have O:=h.get (i:=i+k) ω;have L:a[i+k]'ω=es[i+k]'ω:=by{have P:a[i+k]?=es[i+k]?:=by{have:=Æ (λl=>l[0]?) d;simpa [Qm4] using this};rw [ñ ω,ñ ω] at P;exact ő P};simp (disch:=omega) only [ao];have j:((i:Int)+k).toNat=i+k:=ω;rw [j];refine ⟨⟨ω,ω⟩,((a[i+k]'ω:Nat):Int),by rw [Ĉ,Ĝ];exact iE ω,⟨ω,ω⟩,by simp;omega,ω,?_⟩;have Z:xs[i]*ys[k]<=4294967295*4294967295:=Qg0 ω ω;have Zg:(xs[i]:Int)*(ys[k]:Int)=((xs[i]*ys[k]:Nat):Int):=ψ;obtain ⟨t,ht⟩:∃t:Nat,t=F+xs[i]*ys[k]+a[i+k]'ω:=⟨_,rfl⟩;rw [Đ] at hw;have b:=Ju hw ht;have e1:u64.wrap ((F:Int)+u64.wrap (u64.wrap (u64.wrap (xs[i]:Int)*u64.wrap (ys[k]:Int))+u64.wrap ((a[i+k]'ω:Nat):Int)))=(t:Int):=by{clear b;generalize xs[i]*ys[k]=pq at *;rw [br (x:=(xs[i]:Int)) ω,br (x:=(ys[k]:Int)) ω,Zg,br (x:=((pq:Nat):Int)) ω];simp (disch:=omega) only [br];omega};rw [e1,kz,vT];refine ⟨(_,_,_),?_,η,?_⟩;{(try dsimp only);omega};{(try dsimp only);have D:((k:Int)+1).toNat=k+1:=ω;refine ⟨ω,ω,ω,ω,a.set (i+k) (t%4294967296),?_,by simpa using C,h.set _ _ ω,?_,?_⟩;{rw [<-bS];simp};{rw [D,Qn5 ω];have:=Æ (List.drop 1) d;simpa [Qh4,Wx8,ň,Nat.add_left_comm] using this};{rw [D,show i+(k+1)=i+k+1 from by omega,aU _ _ _,aA es (i+k),aA ys k,<-L,ġ];have e2:((t:Int) / 4294967296).toNat=t / 4294967296:=ω;rw [e2,Đ,b]}}
  ·have f:k=m:=by{simp at f;omega};subst f;simp (disch:=omega) only [ao];have j:((i:Int)+k).toNat=i+k:=ω;rw [j];refine ⟨⟨ω,ω⟩,by simp;omega,(_,_),?_,η,?_⟩;{(try dsimp only);omega};{(try dsimp only);have M:((i:Int)+1).toNat=i+1:=ω;refine ⟨ω,ω,a.set (i+k) F,?_,by simpa using C,h.set _ _ ω,?_⟩;{rw [<-bS,vZ ω];simp};{rw [M,show i+1+k=i+k+1 from by omega,aU _ _ _,hw,y,aA xs i,aq (ds:=ys)];grind}}
 ·have s:i=n:=by{simp at s;omega};subst s;intro W X bk N;refine (bw (RD.aW N g (n:=i+m) (c:=i+m) ω (Ù _))).s ?_;rintro r V7 l7 ⟨k,rfl,f⟩;refine ⟨_,_,_,rfl,λ_ V8 l8=>⟨_,_,_,rfl,?_⟩⟩;rw [a_ g] at f;rw [aq,aq] at y;rw [y] at f;exact ra
theorem Cj {x A d q rest B W:Nat}(u:A=d*B+rest)(h:d*q+r=rest*W+x):x+W*A=d*(q+W*B)+r:=by subst u;grind
theorem IC {xs:zA Nat}(O:RD V p n c xs)(hm:xs.length<=2^40)(d:Nat)(hd0:d≠0)(hd:d<4294967296):À 290 #[dB p n c,Ô .u32 (d:Int)] V λr W=>∃Z n' c',r=æ #[dB Z n' c',Ô .u32 ((val xs%d:Nat):Int)]/\RN W Z n' c' (val xs / d):=by
 have v:=O.len;refine HE V _ ⟨ω,ω,ω,?_⟩;simp (disch:=omega) only [ao,br,Ü,dQ]
 refine ⟨λz V'=>0<=z.1/\z.1<d/\-1<=z.2.1/\z.2.1<n/\∃es:zA Nat,z.2.2=aM es/\es.length=n/\cM es /\
   val (xs.drop (z.2.1+1).toNat)=d*val (es.drop (z.2.1+1).toNat)+z.1.toNat,λz=>(z.2.1+1).toNat,
   ⟨(0,(n:Int)-1,aM (List.replicate n 0)),η,by (try dsimp only);omega,by (try dsimp only);omega,by (try dsimp only);omega,by (try dsimp only);omega,_,rfl,ψ,cM.rep _,?_⟩,?_⟩
 ·(try dsimp only);rw [ļ ω,ļ ψ];rfl
 rintro ⟨rest,i,E⟩ V2 w ⟨f,g,h,j,es,rfl,m,b,a⟩;dsimp only at f g h j a ⊢;obtain ⟨rest,rfl⟩:=ċ f;refine ⟨θ,λe=>?_,λe=>?_⟩
 ·have e:0<=i:=by{simpa using e};obtain ⟨i,rfl⟩:=ċ e;have o:((i:Int)+1).toNat=i+1:=ω;rw [o] at a;simp only [Ü] at a;refine ⟨ω,(O.le w).rd i rfl ω ?_⟩;have x:=O.gg.get (i:=i) ω;have s:bY .or .u64 (u64.wrap ((rest:Int)*2^32)) (u64.wrap ((xs[i]:Nat):Int))=((rest*4294967296+xs[i]:Nat):Int):=by{have y:((2:Int)^32)=4294967296:=φ;rw [y,br ω,br ω,JD _ _ ω x];omega};rw [s];have t:((rest*4294967296+xs[i]:Nat):Int).tdiv (d:Int)=(((rest*4294967296+xs[i]) / d:Nat):Int):=by{rw [Qj4 ω];omega};have A:((rest*4294967296+xs[i]:Nat):Int).tmod (d:Int)=(((rest*4294967296+xs[i])%d:Nat):Int):=by{rw [Qk7 ω];omega};rw [t,A];have F:(rest*4294967296+xs[i]) / d<4294967296:=by{rw [Qn3 ω];have:rest+1<=d:=ω;have:=Ā 4294967296 this;rw [Ĺ 4294967296 d];omega};have G:(rest*4294967296+xs[i])%d<d:=Ě _ ω;have B:=Qd4 (rest*4294967296+xs[i]) d;generalize (rest*4294967296+xs[i]) / d=q at *;generalize (rest*4294967296+xs[i])%d=r at *;simp (disch:=omega) only [br,vZ,ao];refine ⟨ω,⟨ω,ω⟩,by simp;omega,ω,?_⟩;refine ⟨((r:Int),(i:Int)-1,aM (es.set i q)),?_,?_,?_⟩;{(try dsimp only);omega};{(try dsimp only);(and_intros<;>first|trivial|(rw [<-bS];simp))};{(try dsimp only);refine ⟨ω,ω,ω,ω,_,rfl,by simpa using m,b.set _ _ ω,?_⟩;have u:((i:Int)-1+1).toNat=i:=ω;rw [u,Ĥ ω,Ĥ (l:=es.set i q) (by simp;omega),Qf8,Qn5 ω];rw [bO,bO,Ü];exact (Cj a B)}
 ·have e:i=-1:=by{simp at e;omega};subst e;simp only [Ü] at a;have a:val xs=d*val es+rest:=by{simpa using a};intro H I J C;refine (bw (RD.aW C b (n:=n) (c:=n) ω (Ù _))).s ?_;rintro r K L ⟨k,rfl,D⟩;refine ⟨_,_,_,rfl,λ_ M N=>?_⟩;have s:val xs / d=val es:=by{rw [a,Wk4 ω,Ś ω,ě]};have t:val xs%d=rest:=by{rw [a,Wk5,Ģ ω]};rw [vZ ω,s,t];rw [a_ b] at D;exact ⟨_,_,_,rfl,ra⟩
theorem Mb (a b:Nat)(u:a<4294967296)(y:b<4294967296:=by omega):bY .or .u32 (a:Int) (b:Int)=((a ||| b:Nat):Int):=by rw [bY,kz];have c:(BitVec.ofInt IntKind.u32.bits ((a:Nat):Int) ||| BitVec.ofInt IntKind.u32.bits (b:Int)).toNat=a ||| b:=by{show (BitVec.ofInt 32 ((a:Nat):Int) ||| BitVec.ofInt 32 (b:Int)).toNat=_;rw [ŝ,ŝ,Wk3,ř,ř,Ģ ω,Ģ ω]};have d:a ||| b<2^32:=Wy6 ω ω;rw [c];omega
theorem ZG {m:Nat}(h:c<2^r):c ||| m*2^r=c+m*2^r:=by rw [Nat.or_comm,<-Wz7,<-Wq0 h,Wx8]
theorem J7 {d:Nat}(u:d<4294967296)(z:r<32)(y:c<2^r):c ||| (d*2^r%4294967296)=c+d*2^r%4294967296/\c+d*2^r%4294967296<4294967296/\d*2^r / 4294967296<2^r/\d*2^r<18446744073709551616:=by have e:4294967296=2^(32-r)*2^r:=by{rw [<-Đ,Qm8 ω]};have a:d*2^r%4294967296=(d%2^(32-r))*2^r:=by{rw [e,Nat.mul_mod_mul_right]};have f:d%2^(32-r)+1<=2^(32-r):=Ě _ (ı _);have b:=Ā (2^r) f;have h:2^r<=2^31:=ĵ ω ω;have g:d*2^r<4294967296*2^r:=Qc6 u (ı _);refine ⟨by rw [a,ZG y],?_,?_,ω⟩;{rw [a];rw [đ,Ŋ] at b;rw [<-e] at b;omega};{rw [Qn3 ω,Ĺ (2^r)];exact g}
theorem E2 (h:RD V p n c ds)(hm:ds.length<=2^40)(k:Nat)(hk:k<=1048576:=by omega):À 306 #[dB p n c,Ô .u64 (k:Int)] V λr W=>∃p' n' c',r=dB p' n' c'/\RN W p' n' c' (val ds*2^k)/\(val ds=0\/c'=(ah (val ds)).length+k / 32+1):=by
 have G:=bH h.gg;refine MM V _ λW X=>(bw ra).s ?_;rintro r V2 Y ⟨n,rfl,q⟩;rw [a_ h.gg] at q;generalize hxv:val ds=x at *;have Z:=q.len;refine ⟨_,_,_,rfl,λo V3 l3=>?_,λo=>?_⟩
 ·have:ah x=[]:=ĝ.1 (by simp at o;omega);have:=bR.1 this;subst this;rw [Ŗ];exact ⟨_,_,_,rfl,RD.nil,.inl rfl⟩
 ·have o:0<n:=by simp at o;omega
  have D:cH (k:Int) 1048576=k:=by unfold cH;rw [Ã ω]
  have E:(k:Int).tdiv 32=((k / 32:Nat):Int):=by rw [Qj4 ω];omega
  have F:(k:Int).tmod 32=((k%32:Nat):Int):=by rw [Qk7 ω];omega
  rw [D,E,F]
  have s:x*2^k=4294967296^(k / 32)*x*2^(k%32):=by have:2^k=4294967296^(k / 32)*2^(k%32):=by{rw [show (4294967296:Nat)=2^32 from rfl,<-Ww6,<-Đ,Qd4]};rw [this];grind
  rw [s];generalize hw:k / 32=w at *;have t:k%32<32:=Ě _ ω;have H:w<=32768:=ω
  generalize k%32=r at *;clear D E F;simp (disch:=omega) only [ao,br,dQ];have u:((n:Int)+w+1).toNat=n+w+1:=ω
  rw [u]
  refine ⟨ω,ω,ω,ω,ω,λz V'=>0<=z.1/\z.1<=n/\∃es:zA Nat,z.2=aM es/\es.length=n+w+1/\cM es/\(∀c,es[z.1.toNat+w]?=some c->c<2^r) /\
   val (es.take (z.1.toNat+w+1))=4294967296^w*val ((ah x).take z.1.toNat)*2^r,λz=>n-z.1.toNat,
   ⟨(0,aM (List.replicate (n+w+1) 0)),η,ω,ω,_,rfl,ψ,cM.rep _,?_,?_⟩,?_⟩
  ·intro c a;rw [Qs0] at a;split at a;{cases a;exact ı r};{cases a}
  ·simp [Qr3,An]
  rintro ⟨i,vs⟩ V4 I ⟨f,v,es,rfl,y,b,a,d⟩;dsimp only at f v a d ⊢;obtain ⟨i,rfl⟩:=ċ f;simp only [Ü] at a d;refine ⟨θ,λe=>?_,λe=>?_⟩
  ·have e:i<n:=by{simpa using e};refine (q.le I).rd i rfl ω ?_;have J:=(aN x).get (i:=i) ω;have A:=a (es[i+w]'ω) (ñ _);have ⟨K,g2,L,g4⟩:=J7 J t A;have g:(min ((r:Nat):Int).toNat IntKind.u64.bits)=r:=by{show min _ 64=r;omega};have M:((2:Int)^r)=((2^r:Nat):Int):=ψ;rw [g,M];have hmul:(((ah x)[i]:Nat):Int)*((2^r:Nat):Int)=(((ah x)[i]*2^r:Nat):Int):=ψ;simp (disch:=omega) only [ao];rw [br (x:=(((ah x)[i]:Nat):Int)) ω,hmul,br ω,kz,vT];have B:((i:Int)+w).toNat=i+w:=ω;have j:((i:Int)+w+1).toNat=i+w+1:=ω;rw [B,j];refine ⟨ω,⟨ω,ω⟩,((es[i+w]'ω:Nat):Int),by rw [Ĉ,Ĝ];exact iE ω,⟨ω,ω⟩,by simp;omega,ω,⟨ω,ω⟩,by simp;omega,?_⟩;have N:(((ah x)[i]*2^r:Nat):Int)%4294967296=(((ah x)[i]*2^r%4294967296:Nat):Int):=ω;have O:(((ah x)[i]*2^r:Nat):Int) / 4294967296=(((ah x)[i]*2^r / 4294967296:Nat):Int):=ω;rw [N,O,Mb _ _ ω,K];have P:=Qg6 ((ah x)[i]*2^r) 4294967296;have Q:(ah x)[i]*2^r / 4294967296<4294967296:=ω;have C:val (List.take (i+1) (ah x))=val (List.take i (ah x))+4294967296^i*(ah x)[i]:=aA _ _;have R:val (es.take (i+w+1))=val (es.take (i+w))+4294967296^(i+w)*es[i+w]'ω:=aA _ _;generalize (ah x)[i]*2^r%4294967296=lo at *;generalize hhi:(ah x)[i]*2^r / 4294967296=hi at *;rw [vZ ω];refine ⟨((i:Int)+1,aM ((es.set (i+w) (es[i+w]'ω+lo)).set (i+w+1) hi)),?_,?_,?_⟩;{(try dsimp only);omega};{(try dsimp only);(and_intros<;>first|trivial|(rw [<-bS,<-bS];simp))};{(try dsimp only);have l:((i:Int)+1).toNat=i+1:=ω;refine ⟨ω,ω,_,rfl,by simpa using y,(b.set _ _ ω).set _ _ ω,?_,?_⟩;{intro c m;rw [l,show i+1+w=i+w+1 from by omega,Qs6 (by simp;omega)] at m;cases m;exact L};{rw [l,show i+1+w+1=i+w+1+1 from by omega,aU _ _ _ (by simp;omega),aU _ _ _,C];rw [R] at d;have S:4294967296^(i+w+1)*hi=4294967296^(i+w)*(4294967296*hi):=by{rw [ġ];grind};rw [S,ĭ,<-ň,d,ň,<-ĭ,P,Đ];grind}}
  ·have e:i=n:=by{simp at e;omega};subst e;intro V5 l5 bk T;refine (bw (RD.aW T b (n:=i+w+1) (c:=i+w+1) ω (Ù _))).s ?_;rintro r' V6 l6 ⟨k',rfl,U⟩;refine ⟨_,_,_,rfl,λ_ V7 l7=>⟨_,_,_,rfl,?_,.inr ω⟩⟩;rw [aq,aq,af] at d;rw [a_ b,d] at U;exact ra
theorem J8 {d Y r:Nat}(u:d<4294967296)(y:r<32):(d+4294967296*Y) / 2^r=(d+4294967296*(Y%4294967296)) / 2^r%4294967296+4294967296*(Y / 2^r):=by
 have e:4294967296=2^r*2^(32-r):=by rw [<-Đ,Nat.add_sub_cancel' ω]
 have c:=ı r;have k:=ı (32-r);generalize z:2^r=a at *;generalize D:2^(32-r)=b at *
 have f:∀Z,(d+4294967296*Z) / a=d / a+b*Z:=by intro Z;rw [e,ń,Qg3 _ _ c]
 rw [f,f]
 have g:d / a<b:=by rw [Qn3 c,Ĺ,<-e];exact u
 have h:b*(Y%4294967296)%4294967296=b*(Y%a):=by rw [e,Ĺ a b,Nat.mul_mod_mul_left,Nat.mod_mul_left_mod]
 have l:b*(Y%a)+b<=4294967296:=by have:Y%a+1<=a:=Ě _ c;have:=Ņ b this;rw [ĭ,Ĝ,Ĺ b a,<-e] at this;exact this
 have i:(d / a+b*(Y%4294967296))%4294967296=d / a+b*(Y%a):=by rw [Nat.add_mod,h,Ģ (a:=d / a) ω,Ģ ω]
 rw [i]
 have j:b*Y=b*(Y%a)+4294967296*(Y / a):=by
  conv=>lhs;rw [<-(Qg6 Y a)]
  rw [ĭ,<-ń,Ĺ b a,<-e]
 rw [j];omega
theorem v_ {xs:zA Nat}(h:cM xs)(i:Nat):val (xs.drop i)%4294967296=(xs[i]?).getD 0:=by rcases Ē i xs.length with a|a;{rw [Ĥ a,bO,ñ a,Qf6,Wy2,Ģ (h.get a)]};{rw [ļ a,ţ a];rfl}
theorem OY (h:RD V p n c ds)(hm:ds.length<=2^40)(k:Nat)(hk:k<18446744073709551616:=by omega):À 307 #[dB p n c,Ô .u64 (k:Int)] V λr W=>∃p' n' c',r=dB p' n' c'/\RN W p' n' c' (val ds / 2^k):=by
 have S:=bH h.gg;refine MN V _ λZ l1=>(bw ra).s ?_;rintro r V2 l2 ⟨n,rfl,B⟩;rw [a_ h.gg] at B;generalize val ds=x at *;have hl:=B.len;have P:(k:Int).tdiv 32=((k / 32:Nat):Int):=by rw [Qj4 ω];omega
 have C:(k:Int).tmod 32=((k%32:Nat):Int):=by rw [Qk7 ω];omega
 refine ⟨_,_,_,rfl,?_⟩;rw [P,C]
 have q:x / 2^k=x / 4294967296^(k / 32) / 2^(k%32):=by rw [Nat.div_div_eq_div_mul,show (4294967296:Nat)=2^32 from rfl,<-Ww6,<-Đ,Qd4]
 rw [q];have T:k / 32<576460752303423488:=ω
 generalize k / 32=w at *;have E:k%32<32:=Ě _ ω;generalize k%32=r at *;clear P C q;refine ⟨ω,λf V3 l3=>?_,λf=>?_⟩
 ·have f:n<=w:=by{rw [br ω,br ω] at f;simp at f;omega};have:x / 4294967296^w=0:=Ś (ĺ (aP.1 (Ù _)) (ĵ ω ω));rw [this,Wk6];exact ⟨_,_,_,rfl,RD.nil⟩
 ·have f:w<n:=by
   rw [br ω,br ω] at f;simp at f;omega
  simp (disch:=omega) only [ao,br,dQ];have F:((n:Int)-w).toNat=n-w:=ω
  rw [F]
  have G:x / 4294967296^w=val ((ah x).drop w):=by have e:val (ah x)=val ((ah x).take w++(ah x).drop w):=by{rw [Qj6]};have s:=iG ((aN x).take w);rw [eQ,af] at e;rw [è,ğ ω] at e s;have g:∀y,y=val ((ah x).take w)+4294967296^w*val ((ah x).drop w)->y / 4294967296^w=val ((ah x).drop w):=by{intro y U;rw [U,Qg3 _ _ (Ww7 ω),Ś s,Ĉ]};exact g x e
  rw [G]
  refine ⟨ω,ω,ω,ω,ω,λz V'=>0<=z.1/\z.1<=(n-w:Nat)/\∃es:zA Nat,z.2=aM es/\es.length=n-w/\cM es /\
   val (es.take z.1.toNat)+4294967296^z.1.toNat*(val ((ah x).drop (w+z.1.toNat)) / 2^r)=val ((ah x).drop w) / 2^r,λz=>(n-w)-z.1.toNat,
   ⟨(0,aM (List.replicate (n-w) 0)),η,ω,ω,_,rfl,ψ,cM.rep _,ψ⟩,?_⟩
  rintro ⟨i,vs⟩ V4 Q ⟨t,H,es,rfl,I,j,b⟩;dsimp only at t H b ⊢;obtain ⟨i,rfl⟩:=ċ t;simp only [Ü] at b;refine ⟨θ,λu=>?_,λu=>?_⟩
  ·have u:i<n-w:=by simpa using u
   simp (disch:=omega) only [ao];refine (B.le Q).rd (w+i) ω ω ?_;have R:=(aN x).get (i:=w+i) ω;have v:=J8 (Y:=val ((ah x).drop (w+i+1))) R E;rw [v_ (aN x)] at v
   have d:(min ((r:Nat):Int).toNat IntKind.u64.bits)=r:=by show min _ 64=r;omega
   have m:val ((ah x).drop (w+i))=(ah x)[w+i]+4294967296*val ((ah x).drop (w+i+1)):=by rw [Ĥ ω,bO]
   rw [m] at b;rw [v] at b
   have nxt:∀D:Nat,D=((ah x)[w+i]+4294967296*((ah x)[w+i+1]?).getD 0) / 2^r%4294967296 ->
     ∃a:zA Nat,(aM es).set (0+i*1) (Ô .u32 (D:Int))=aM a/\a.length=n-w/\cM a /\
     val (a.take (i+1))+4294967296^(i+1)*(val ((ah x).drop (w+(i+1))) / 2^r)=val ((ah x).drop w) / 2^r:=by
    intro D W;refine ⟨es.set i D,by rw [<-bS];simp,by simpa using I,j.set _ _ ω,?_⟩;rw [aU _ _ _,<-b,W,ġ,ĭ,ň,ń,ň w i 1]
   have A:((i:Int)+1).toNat=i+1:=ω
   refine ⟨λo=>?_,λo=>?_⟩
   ·have o:w+i+1<n:=by{simp at o;omega};refine (B.le Q).rd (w+i+1) ω ω ?_;have J:=(aN x).get (i:=w+i+1) ω;have K:bY .or .u64 (u64.wrap (((ah x)[w+i]:Nat):Int)) (u64.wrap (u64.wrap (((ah x)[w+i+1]:Nat):Int)*2^32))=(((ah x)[w+i]+4294967296*((ah x)[w+i+1]?).getD 0:Nat):Int):=by{have C:((2:Int)^32)=4294967296:=φ;rw [C,br ω,br (x:=(((ah x)[w+i+1]:Nat):Int)) ω,br ω,Tc _ _ J R,ñ ω,Qf6];omega};rw [K,d,jH,kz];refine ⟨ω,ω,⟨ω,ω⟩,by simp;omega,?_⟩;have ⟨a,L,M,N,O⟩:=nxt _ rfl;refine ⟨((i:Int)+1,aM a),?_,?_,?_⟩;{(try dsimp only);omega};{(try dsimp only);(and_intros<;>first|trivial|(rw [<-L];simp))};{(try dsimp only);exact ⟨ω,ω,a,rfl,M,N,by rw [A];exact O⟩}
   ·have o:n<=w+i+1:=by{simp at o;omega};have K:u64.wrap (((ah x)[w+i]:Nat):Int)=(((ah x)[w+i]+4294967296*((ah x)[w+i+1]?).getD 0:Nat):Int):=by{rw [br ω,ţ ω];simp};rw [K,d,jH,kz];refine ⟨ω,⟨ω,ω⟩,by simp;omega,?_⟩;have ⟨a,L,M,N,O⟩:=nxt _ rfl;refine ⟨((i:Int)+1,aM a),?_,?_,?_⟩;{(try dsimp only);omega};{(try dsimp only);(and_intros<;>first|trivial|(rw [<-L];simp))};{(try dsimp only);exact ⟨ω,ω,a,rfl,M,N,by rw [A];exact O⟩}
  ·have u:i=n-w:=by{simp at u;omega};intro V5 l5 bk X;refine (bw (RD.aW X j (n:=n-w) (c:=n-w) ω (Ù _))).s ?_;rintro r' V6 l6 ⟨k',rfl,o⟩;refine ⟨_,_,_,rfl,λ_ V7 l7=>⟨_,_,_,rfl,?_⟩⟩;rw [aq,ļ (l:=ah x) (i:=w+i) ω] at b;have b:val es=val ((ah x).drop w) / 2^r:=by{rw [<-b,fY,Wk6,Ĩ,ě]};rw [a_ j,b] at o;exact ra
end Go.Proofs.Tryz
namespace Go.Big
variable{B G T W Y t' u0 u1 u2 v' v1 v2 ρ:Nat}
theorem Po (hY:Y=(v1*W+v2)*B+v')(hT:T=((u0*W+u1)*W+u2)*B+t')(u:t'<B)(y:G*v1+ρ=u0*W+u1)(z:ρ*W+u2<G*v2):T<G*Y:=by have a:(u0*W+u1)*W+u2+1<=G*(v1*W+v2):=by{grind [Nat.add_mul]};have b:=Ā B a;have c:G*(v1*W+v2)*B<=G*Y:=by{rw [hY,ń];exact Ņ _ (Qp9 _ _)};rw [đ,Ŋ] at b;omega
theorem Fp (hY:Y=(v1*W+v2)*B+v')(hT:T=((u0*W+u1)*W+u2)*B+t')(y:v'<B)(u:1<=v1)(z:0<W)(E:G*v1+ρ=u0*W+u1)(F:G*v2<=ρ*W+u2)(D:G<=W:=by omega):G*Y<T+Y:=by have a:G*(v1*W+v2)<=(u0*W+u1)*W+u2:=by{grind [Nat.add_mul]};have b:=Ā B a;have c:G*v'<=W*v':=Ā _ D;have d:=Nat.mul_lt_mul_of_pos_left y z;have e:W*B<=v1*W*B:=by{have:=Ā (W*B) u;grind};have f:(v1*W+v2)*B=v1*W*B+v2*B:=đ _ _ _;have g:G*Y=G*(v1*W+v2)*B+G*v':=by{rw [hY,ĭ,ń]};omega
theorem Fq (hY:Y=(v1*W+v2)*B+v')(hT:T=((u0*W+u1)*W+u2)*B+t')(u:v'<B)(h:T<W*Y):u0*W+u1<=v1*W+v2:=by rcases Ē (v1*W+v2) (u0*W+u1) with a|a;{exfalso;have b:(v1*W+v2+1)*W<=(u0*W+u1)*W:=Ā _ a;have c:=Ā B b;have d:W*Y<=W*((v1*W+v2+1)*B):=by{rw [hY,đ (v1*W+v2) 1 B,Ŋ];exact Ņ _ ω};grind};{exact a}
theorem Sa (hY:Y=(v1*W+v2)*B+v')(hT:T=((u0*W+u1)*W+u2)*B+t')(u:t'<B)(hu:u2<W)(y:G*v1+ρ=u0*W+u1)(z:ρ<v1):T<(G+1)*Y:=by have a:u0*W+u1+1<=(G+1)*v1:=by{rw [đ,Ŋ];omega};have b:=Ā (W*B) a;have c:(G+1)*v1*(W*B)<=(G+1)*Y:=by{rw [hY,ń];grind};have d:((u0*W+u1)*W+u2)*B+t'<(u0*W+u1+1)*(W*B):=by{have e:(u2+1)*B<=W*B:=Ā _ hu;grind};omega
theorem FR {F U c b g d u Y W S:Nat}{x:Int}(h:F+W*(g*Y)=U+W*S*(c+b))(y:c<4294967296)(z:b<=1)(hu:u<4294967296)(D:x=((u:Int)-((c+g*d)%4294967296:Nat)-b)%18446744073709551616):0<=x/\0<=x / 9223372036854775808/\x / 9223372036854775808<=1 /\ F+W*S*(x%4294967296).toNat+W*(g*(Y+S*d))=U+W*S*u+W*(S*4294967296)*((c+g*d) / 4294967296+(x / 9223372036854775808).toNat):=by have k:=Qg6 (c+g*d) 4294967296;have hm:(c+g*d)%4294967296<4294967296:=Ě _ ω;generalize (c+g*d) / 4294967296=q at *;generalize (c+g*d)%4294967296=m at *;have key:∃o B:Nat,(x%4294967296).toNat=o/\(x / 9223372036854775808).toNat=B/\u+4294967296*B=o+m+b/\0<=x/\0<=x / 9223372036854775808/\x / 9223372036854775808<=1:=χ;obtain ⟨o,B,a,e,l,f,i,j⟩:=key;refine ⟨f,i,j,?_⟩;rw [a,e];have n:u+4294967296*(B+q)=o+b+(c+g*d):=ω;have p:W*S*u+W*(S*4294967296)*(q+B)=W*S*(u+4294967296*(B+q)):=χ;grind
theorem EO {F U c d u Y W S t:Nat}(h:F+W*S*c=U+W*Y)(y:t=c+u+d:=by omega):F+W*S*(t%4294967296)+W*(S*4294967296)*(t / 4294967296)=U+W*S*u+W*(Y+S*d):=by have a:W*S*(t%4294967296)+W*(S*4294967296)*(t / 4294967296)=W*S*t:=by{grind [Nat.mod_add_div]};grind
end Go.Big
