import Derived.Test.YtdfckdifmjeieaaGreatDoorCards
import Derived.Test.YtdfckdifmjeieaaGreatDoorTie
import Derived.ProofKit
import Derived.OpenShut
import Derived.Deep.DeepHandedRow
import Derived.LaidLaws
import Derived.Lay
import Derived.Carry
import Derived.LaidEql
import Derived.Stop.Asserts
import Derived.RowKitTokens
import Derived.IntWalk
import Derived.Shelf.SlLaysF0
import Derived.Shelf.Lays
import Derived.Shelf.Small.Bits
import Derived.Shelf.Bits.Mul64
import Derived.Test.YtdfckdifmjeieaaGreatDoorC6
set_option linter.all false
open Go.IntKind (i64 u64 u32)
open Go.Value renaming int→Ô,tuple→å,slice→yG,bool→dB
namespace Go.Proofs.YtdfckdifmjeieaaGreatDoor
open Go.ChangeShapes Go.WideShapes Go.ChangeAt Go.RowKit Go.Eng
def own:ownKnob Tryz.prog.godebug=none:=ζ
def star : "*" ++ "errors.errorString" = "*errors.errorString" := by decide
def rowE (u : TypeId)(h : Tryz.prog.typeName? 3 u=some "*errors.errorString") : u=383 :=
 typeName_ptr_named (nm := "errors.errorString") (by rw [star]; kernel_rfl) ζ φ u (by rw [star]; exact h)
def cellsE:Tryz.prog.cellsOf 400=1:=ζ
def cellsS:Tryz.prog.cellsOf 9=1:=ζ
def row0 (g:Nat):MemPlace.cell g 0∈MemPlace.row ⟨g,0,none⟩ 1:=by simp [MemPlace.row]
def cell0 {P:Program}{W:World}{name:String}{g:Nat}{v:um}(u:P.globalNamed name=some g)(h:W.var? P name=some #[v]):W.cell? ⟨g,0,none⟩=some v:=by simpa using World.var?_cell u h 0
set_option maxRecDepth 100000 in
def xr {W:World}{l:zA (String×DataW Unit)}{name:String}{text:zA UInt8}{g:Nat}(E:Tryz.prog.globalNamed name=some g)(hty:(Tryz.prog.globals[g]?).map (·.type)=some 33)(hm : (name, .iface "*errors.errorString" (.ptr (.agg [.lit (.string text)]))) ∈ l)(h : laidMet Tryz.prog l W):∃a,W.cell? ⟨g,0,none⟩=some (.iface 383 (.pointer (some a))):=by
 obtain ⟨k,hv,-,c⟩:=h
 induction l generalizing k with
 | nil=>cases hm
 | cons x r F=>
  obtain ⟨n,d⟩:=x;obtain ⟨A,t,cs,fuel,p,q,i,m,f,o,w,rfl⟩:=hv;rcases ç.1 hm with e|hm
  ·cases e;obtain rfl:=ő (E.symm.m i);obtain rfl:=ő (hty.symm.m m);obtain ⟨y⟩:=cs
   have j:∀u v,y=[.iface u v]->Value.okWide Tryz.prog W .any 0 u v:=λu v e=>by
    subst e;exact (c g 0 (Ĕ _ (Ĕ _ (row0 g)))).2 u v (cell0 E f)
   obtain ⟨a,s,rfl,-⟩:=errorString_of_trod Tryz.underlying33 rowE Tryz.underlying383 Tryz.underlying400 rfl rfl Tryz.underlying9 cellsE cellsS o j;exact ⟨a,cell0 E f⟩
  ·exact F hm q w λb off z=>c b off (ĝ _ z)
def Ó.all (W:World):Ó:=⟨W,λ_=>False,λ_=>False,λ_ h=>h.elim,λ_ h=>h⟩
def K_ {w w':World}(h:kQ (λ_=>False) w w')(may:MemPlace->Prop):w.keptBut w' may:=by refine ⟨h.os,h.out,λi a=>?_⟩;rw [h.bo i a (λh=>h)];(cases w.heap[i]? with|none=>rfl|some o=>{cases o<;>simp})
def E5 {f:FuncId}{args:Array um}{W:World}{R:um->Prop}(h:ae Tryz.prog f args (Ó.all W) λr _=>R r):Calls Tryz.prog f args W λe w'=>∃r,e=.returned r/\R r/\kQ (λ_=>False) W w':=
 h.2.s λe w' ⟨r,he,a,b⟩=>⟨r,he,b,a⟩
def laidOut:laidOutB Tryz.prog=true:=ζ
def HT {w w':World}(h:kQ (λ_=>False) w w'):Below w.heap.size w w':=⟨h.os,h.tape,h.out,h.size,λk a=>h.bo k a (λh=>h)⟩
def Rl {P:Program}(hlo:laidOutB P=true){H:Type}{enc:TypeId×um->H}{W W':World}(y:Below W.heap.size W W')(ts:zA TypeId):∀{vs:zA um} {ds:zA (DataW H)} {u:zA MemPlace},(ts.all λt=>P.readableRec t&&decide (t<P.types.size))=true->DataW.TrodAll enc P W 0 (λ_=>true) true ts vs ds u->(∀x∈u,x.block<W.heap.size) ->DataW.TrodAll enc P W' 0 (λb=>decide (b<W.heap.size)) true ts vs ds u:=by
 induction ts with
 | nil=>
  intro vs ds u _ h _;obtain ⟨rfl,rfl,rfl⟩:=trodAll_nil h;exact trodAll_mk0
 | cons t ts z=>
  intro vs ds u c h a;obtain ⟨v,f,d,g,p,q,rfl,rfl,rfl,i,j⟩:=trodAll_cons h;simp only [List.all_cons,Č,Ñ] at c;exact trodAll_cons_mk (Below.trod hlo c.1.1 c.1.2 i y λx e=>a x (Ĕ _ e)) (z c.2 j λx e=>a x (ĝ _ e))
set_option maxRecDepth 100000 in
def YW {H:Type}{enc:TypeId×um->H}{fid:FuncId}{f:Func}{s:ChangeSpec}{W:World}{args:Array um}{ds gs:zA (DataW H)}{before:zA MemPlace}{fresh handsOn:ut}(y:DataW.Whole enc Tryz.prog f.params.toList s.vars false W args.toList ds gs before)(hvars:s.vars=[])(hts:(f.params.toList.all λt=>Tryz.prog.readableRec t&&decide (t<Tryz.prog.types.size))=true)(hres:f.resultTypes=#[4])(u:s.fn H (ds++gs)={ results:=[.lit (.bool true)],args:=ds })(h:ae Tryz.prog fid args (Ó.all W) λr _=>r=.bool true):Calls Tryz.prog fid args W λe W'=>∃v,e=.returned v/\s.post enc Tryz.prog f false fresh handsOn false W args v W':=by refine (E5 h).s λe W' ⟨r,he,g,a⟩=>?_;subst he g;have b:=y;obtain ⟨p,q,i,d,rfl,-,-⟩:=y;rw [hvars] at d;obtain ⟨rfl,rfl⟩:=trodVars_none d;have c:∀x∈p++[],x.block<W.heap.size:=λx a=>b.lt x a;refine ⟨_,rfl,ds,_,p++[],[],p++[],[],b,?_,?_,?_,K_ a _,λh=>nomatch h⟩;{rw [u,hres];exact trodAll_cons_mk (shut_bool Tryz.underlying4 _) trodAll_mk0};{rw [u,ć];exact Rl laidOut (HT a) _ hts i λx a=>c x (by rw [ć];exact a)};rw [u,hvars];rfl
set_option maxRecDepth 100000 in
def LO {H:Type}{enc:TypeId×um->H}{W:World}{p:OA}{n c:Nat}{d:DataW H}{u:zA MemPlace}(h:DataW.Trod enc Tryz.prog W 0 (λ_=>true) true 22 (.slice p n c) d u):n<=c/\∀i,i<n->∃(a:Addr)(x:Int),af p (i*1)=some a/\(Ó.all W).at a (.int .i64 x):=by obtain ⟨fuel,k⟩:=h;rcases open_ints Tryz.underlying22 Tryz.underlying3 (show Tryz.prog.cellsOf 3=1 by kernel_rfl) k with ⟨b,-⟩|⟨a,f,g,o,b,_,l,-,m,-,e,-⟩;{simp [Value.cells] at b;obtain ⟨rfl,rfl,rfl⟩:=b;exact ⟨Ù _,λi j=>Å j ω⟩};simp [Value.cells] at b;obtain ⟨rfl,rfl,rfl⟩:=b;simp only [Ï] at m;exact ⟨l,λi j=>⟨a.add i,_,by rw [Ģ];rfl,λh=>h,e i ω⟩⟩
end Go.Proofs.YtdfckdifmjeieaaGreatDoor
namespace Go.Big
variable{a ds:List Nat}{n:Nat}
def val:List Nat->Nat
 | []=>0
 | d::r=>d+4294967296*val r
def cP (ds:List Nat):Prop:=∀d∈ds,d<4294967296
def cZ:List Nat->List Nat
 | []=>[]
 | d::r=>if cZ r=[]/\d=0 then [] else d::cZ r
def zy (ds:List Nat):Prop:=cZ ds=ds
def Cm:Nat->Nat->List Nat
 | 0,_=>[]
 | f+1,n=>if n=0 then [] else n%4294967296::Cm f (n/4294967296)
def ai (n:Nat):List Nat:=Cm n n
@[simp] theorem gN:val []=0:=rfl
@[simp] theorem bT (d:Nat)(r:List Nat):val (d::r)=d+4294967296*val r:=rfl
def cP.nil:cP []:=λ_ h=>nomatch h
def cP.cons {d:Nat}{r:zA Nat}:cP (d::r)↔d<4294967296/\cP r:=by simp [cP]
def cP.append {b:zA Nat}:cP (a++b)↔cP a/\cP b:=by simp [cP,or_imp,forall_and]
def cP.take (h:cP a)(k:Nat):cP (a.take k):=λd b=>h d (Qn7 b)
def cP.drop (h:cP a)(k:Nat):cP (a.drop k):=λd b=>h d (Qg9 b)
def cP.set (h:cP a)(k x:Nat)(u:x<4294967296):cP (a.set k x):=λd c=>by
 rcases List.mem_or_eq_of_mem_set c with b|b
 ·exact h d b
 ·exact b▸u
def cP.get (h:cP a){i:Nat}(hi:i<a.length):a[i]<4294967296:=h _ (ú hi)
def cP.rep (n:Nat):cP (List.replicate n 0):=λd a=>by rw [Qs3 a];omega
theorem fo (a b:zA Nat):val (a++b)=val a+4294967296^a.length*val b:=by
 induction a with
 | nil=>simp
 | cons d r u=>simp only [Qc1,bT];grind
theorem je (h:cP ds):val ds<4294967296^ds.length:=by
 induction ds with
 | nil=>simp
 | cons d r u=>
  have a:=cP.cons.1 h;grind [val]
def BC (n:Nat):val (List.replicate n 0)=0:=by
 induction n with
 | zero=>rfl
 | succ n u=>simp [List.replicate_succ,u]
def aG (ds:zA Nat)(i:Nat)(h:i<ds.length:=by omega):val (ds.take (i+1))=val (ds.take i)+4294967296^i*ds[i]:=by rw [Qz3 h,fo];simp [Ħ (Qs4 h)]
def ax {ds:zA Nat}{i:Nat}(h:ds.length<=i:=by omega):val (ds.take i)=val ds:=by rw [ŋ h]
theorem Fk (ds:zA Nat)(i x:Nat)(h:i<ds.length):(ds.set i x).take (i+1)=ds.take i++[x]:=by grind [List.take_succ_eq_append_getElem,List.take_set,List.set_eq_of_length_le]
def aX (ds:zA Nat)(i x:Nat)(h:i<ds.length:=by omega):val ((ds.set i x).take (i+1))=val (ds.take i)+4294967296^i*x:=by rw [Fk ds i x h,fo];simp [Ħ (Qs4 h)]
def kJ (r:zA Nat):cZ (r++[0])=cZ r:=by
 induction r with
 | nil=>simp [cZ]
 | cons d r u=>simp only [Qc1,cZ,u]
def vF (r:zA Nat)(d:Nat)(h:d≠0):cZ (r++[d])=r++[d]:=by
 induction r with
 | nil=>simp [cZ,h]
 | cons x r u=>simp [cZ,u]
def Tj (ds:zA Nat):val (cZ ds)=val ds:=by
 induction ds with
 | nil=>rfl
 | cons d r u=>
  simp only [cZ];split
  ·rename_i h;rw [bT,<-u,h.1,h.2];rfl
  ·simp [u]
def oR (ds:zA Nat):(cZ ds).length<=ds.length:=by
 induction ds with
 | nil=>simp [cZ]
 | cons d r u=>simp only [cZ];split<;>simp<;>omega
theorem Th (ds:zA Nat):cZ ds=ds.take (cZ ds).length:=by induction ds<;>grind [cZ]
def cP.trim (h:cP ds):cP (cZ ds):=by rw [Th];exact h.take _
def Mk (ds:zA Nat):zy (cZ ds):=by
 unfold zy
 induction ds with
 | nil=>rfl
 | cons d r u=>
  rw [cZ];split
  ·rfl
  ·rename_i h;rw [cZ,u,Ã h]
def zy.tail {d:Nat}{r:zA Nat}(h:zy (d::r)):zy r:=by unfold zy at h ⊢;simp only [cZ] at h;split at h;{cases h};injection h
def zy.zero (h:zy ds)(hv:val ds=0):ds=[]:=by
 induction ds with
 | nil=>rfl
 | cons d r u=>
  have a:=u h.tail (by simp at hv;omega);subst a;simp at hv;subst hv;simp [zy,cZ] at h
def wu:∀(f n:Nat),n<=f->val (Cm f n)=n/\cP (Cm f n)/\zy (Cm f n)
 | 0,n,h=>⟨by simp [Cm];omega,cP.nil,rfl⟩
 | f+1,n,h=>by
  simp only [Cm];split
  ·subst_vars;exact ⟨rfl,cP.nil,rfl⟩
  ·have ⟨u,z,y⟩:=wu f (n/4294967296) ω;refine ⟨by rw [bT,u];omega,cP.cons.2 ⟨ω,z⟩,?_⟩;unfold zy at y ⊢;rw [cZ,y,Ã];rintro ⟨a,b⟩;rw [a] at u;simp at u;omega
theorem ag (n:Nat):val (ai n)=n:=(wu n n (Ù _)).1
theorem aS (n:Nat):cP (ai n):=(wu n n (Ù _)).2.1
def kg (n:Nat):zy (ai n):=(wu n n (Ù _)).2.2
theorem zy.ext:∀{a b:zA Nat},cP a->cP b->zy a->zy b->val a=val b->a=b
 | [],b,_,_,_,u,h=>(u.zero (by rw [<-h];rfl)).symm
 | d::r,[],_,_,y,_,h=>by have:=y.zero h;cases this
 | d::r,e::s,y,u,na,nb,h=>by
  have f:=(cP.cons.1 y).1;have g:=(cP.cons.1 u).1;simp only [bT] at h;have:val r=val s:=ω
  have c:=zy.ext (cP.cons.1 y).2 (cP.cons.1 u).2 na.tail nb.tail this;grind
def wA (h:cP ds)(u:zy ds):ai (val ds)=ds:=zy.ext (aS _) h (kg _) u (ag _)
theorem bg (h:cP ds):cZ ds=ai (val ds):=by rw [<-Tj,wA h.trim (Mk _)]
def wz {a b:Nat}(h:ai a=ai b):a=b:=by rw [<-ag a,h,ag]
@[simp] theorem GN:ai 0=[]:=rfl
def bG:ai n=[]↔n=0:=⟨λh=>wz (by rw [h];rfl),λh=>h▸rfl⟩
theorem zy.last (h:zy ds)(u:0<ds.length):ds[ds.length-1]≠0:=by intro e;have a:ds=ds.take (ds.length-1)++[ds[ds.length-1]]:=by{grind [List.take_succ_eq_append_getElem,Nat.sub_add_cancel,List.take_length]};rw [e] at a;have b:cZ ds=ds:=h;rw [a,kJ] at b;have:=oR (ds.take (ds.length-1));grind
theorem zT (h:∀u:0<ds.length,ds[ds.length-1]≠0):zy ds:=by rcases ĺ ds.length with e|e;{rw [ĕ.1 e];rfl};have a:ds=ds.take (ds.length-1)++[ds[ds.length-1]]:=by{grind [List.take_succ_eq_append_getElem,Nat.sub_add_cancel,List.take_length]};have:=vF (ds.take (ds.length-1)) _ (h e);rw [<-a] at this;exact this
theorem W8 (h:zy ds)(u:0<ds.length:=by omega):4294967296^(ds.length-1)<=val ds:=by have a:ds=ds.take (ds.length-1)++[ds[ds.length-1]]:=by{grind [List.take_succ_eq_append_getElem,Nat.sub_add_cancel,List.take_length]};have b:=h.last u;rw [a,fo];simp only [bT,gN];simp only [í,ë,Qc5];rw [Ħ ω,Qm6 u];have:4294967296^(ds.length-1)*1<=4294967296^(ds.length-1)*(ds[ds.length-1]+4294967296*0):=Ň _ ω;omega
theorem aT {n k:Nat}:(ai n).length<=k↔n<4294967296^k:=by constructor;{grind [je,aS,ag,Nat.lt_of_lt_of_le,Nat.pow_le_pow_right]};intro h;rcases ē k (ai n).length with a|a;{have:=W8 (kg n);rw [ag] at this;have b:4294967296^k<=4294967296^((ai n).length-1):=ķ ω ω;omega};exact a
def zK {k:Nat}:k<(ai n).length↔4294967296^k<=n:=by have:=@aT n k;omega
theorem jF (ds:zA Nat)(i:Nat)(h:i<ds.length):val ds=val (ds.take i)+4294967296^i*(ds[i]+4294967296*val (ds.drop (i+1))):=by have a:val ds=val (ds.take i++ds.drop i):=by{rw [Qj8]};grind [fo,List.drop_eq_getElem_cons,bT]
theorem mV {b:zA Nat}{i:Nat}(u:cP a)(hi:i<a.length)(y:i<b.length)(z:a.drop (i+1)=b.drop (i+1))(E:a[i]<b[i]):val a<val b:=by rw [jF a i hi,jF b i y,z];have c:=je (u.take i);simp only [ë,Ħ (Qs4 hi)] at c;have d:4294967296^i*(a[i]+4294967296*val (b.drop (i+1))+1)<=4294967296^i*(b[i]+4294967296*val (b.drop (i+1))):=Ň _ ω;grind
def oI {a b:Nat}(h:(ai a).length<(ai b).length:=by omega):a<b:=by have c:=je (aS a);have d:=W8 (kg b);rw [ag] at c d;have e:4294967296^(ai a).length<=4294967296^((ai b).length-1):=ķ ω ω;omega
def nE (a b:Nat):Int:=if a<b then -1 else if b<a then 1 else 0
def aL {a b:Nat}(h:a<=b:=by omega):(ai a).length<=(ai b).length:=by rcases ē (ai b).length (ai a).length with c|c;{have:=oI c;omega};exact c
def bz (h:cP ds):(ai (val ds)).length<=ds.length:=by rw [<-bg h];exact oR ds
def Yk (h:n<4294967296)(u:n≠0:=by omega):ai n=[n]:=by have:zy [n]:=by{simp [zy,cZ,u]};have:=wA (by simp [cP];exact h) this;simpa using this
end Go.Big
namespace Go.Proofs.Tryz
open Go.Big
section
variable{α:Type}
structure Ŏ (c:α->α->Int):Prop where
 asy:∀a b,c a b<0->¬c b a<0
 tr:∀a b d,¬c a b<0->¬c b d<0->¬c a d<0
variable{c:α->α->Int}
def Ŏ.refl (h:Ŏ c)(a:α):¬c a a<0:=λl=>h.asy a a l l
def Jm (d:α)(l:List α)(i j:Nat):List α:=(l.set i (l.getD j d)).set j (l.getD i d)
variable{d:α}
def Jn {l:zA α}{i j:Nat}:(Jm d l i j).length=l.length:=by simp [Jm]
def wF {l:zA α}{i k:Nat}{x:α}(hi:i<l.length):(l.set i x).getD k d=if k=i then x else l.getD k d:=by simp only [Ę,Qr0];by_cases h:k=i;{subst h;simp [hi]};{have:¬i=k:=λe=>h e.symm;simp [h,this]}
def yU {l:zA α}{i j k:Nat}(hi:i<l.length)(u:j<l.length:=by omega):(Jm d l i j).getD k d=if k=j then l.getD i d else if k=i then l.getD j d else l.getD k d:=by unfold Jm;rw [wF (by simpa using u),wF hi]
def WY {l:zA α}{i j:Nat}(hi:i<l.length)(u:j<l.length:=by omega):(Jm d l i j).Perm l:=by have e:(l.toArray.swap i j (by simpa using hi) (by simpa using u)).toList=Jm d l i j:=by{simp [Array.swap,Jm,Ę,hi,u]};have:=(Array.swap_perm (xs:=l.toArray) (i:=i) (j:=j) (by simpa using hi) (by simpa using u)).toList;rw [e] at this;simpa using this
structure uI (d:α) (l m:List α) (a b:Nat):Prop where
 len:m.length=l.length
 out:∀k,¬(a<=k/\k<b)->m.getD k d=l.getD k d
 mem:∀k,a<=k->k<b->∃k',a<=k'/\k'<b/\m.getD k d=l.getD k' d
 perm:m.Perm l
def uI.refl (l:zA α)(a b:Nat):uI d l l a b:=⟨rfl,λ_ _=>rfl,λk h c=>⟨k,h,c,rfl⟩,.refl _⟩
def uI.m {l m n:zA α}{a b:Nat}(h:uI d l m a b)(g:uI d m n a b):uI d l n a b:=
 ⟨g.len.m h.len,λk f=>(g.out k f).m (h.out k f),λk i j=>by
  have ⟨o,p,q,e⟩:=g.mem k i j;have ⟨c,r,s,t⟩:=h.mem o p q;exact ⟨c,r,s,e.m t⟩,g.perm.m h.perm⟩
def uI.wide {l m:zA α}{a b u b':Nat}(h:uI d l m a b)(y:u<=a)(z:b<=b'):uI d l m u b':=
 ⟨h.len,λk c=>h.out k ω,λk f g=>by
  by_cases c:a<=k/\k<b
  ·have ⟨i,j,n,e⟩:=h.mem k c.1 c.2;exact ⟨i,ω,ω,e⟩
  ·exact ⟨k,f,g,h.out k c⟩,h.perm⟩
def uI.Jm {l:zA α}{a b i j:Nat}(hi:a<=i)(u:i<b)(z:a<=j)(y:j<b)(E:b<=l.length:=by omega):uI d l (Jm d l i j) a b:=by refine ⟨Jn,λk f=>?_,λk c e=>?_,WY ω⟩;{rw [yU ω,Ã ω,Ã ω]};rw [yU ω];split;{exact ⟨i,hi,u,rfl⟩};split;{exact ⟨j,z,y,rfl⟩};exact ⟨k,c,e,rfl⟩
def qo (c:α->α->Int)(d:α)(l:List α)(a b:Nat):Prop:=∀p q,a<=p->p<q->q<b->¬c (l.getD q d) (l.getD p d)<0
def qo.short {l:zA α}{a b:Nat}(h:b<=a+1):qo c d l a b:=λp q e f g=>ω
def Z3 (c:α->α->Int)(d:α)(l:List α)(a i j:Nat):Prop:=∀p q,a<=p->p<q->q<=i->q≠j->¬c (l.getD q d) (l.getD p d)<0
def Z3.start {l:zA α}{a i:Nat}(h:qo c d l a i):Z3 c d l a i i:=λp q b e f g=>h p q b e ω
def Z3.done (y:Ŏ c){l:zA α}{a i j:Nat}(h:Z3 c d l a i j)(hji:j<=i)(u:j<=a\/¬c (l.getD j d) (l.getD (j-1) d)<0):qo c d l a (i+1):=by intro p q b f k;by_cases e:q=j;{subst e;rcases u with u|u;{omega};by_cases g:p=q-1;{subst g;exact u};exact y.tr _ _ _ u (h p (q-1) b ω ω ω)};exact h p q b f ω e
def Z3.move (u:Ŏ c){l:zA α}{a i j:Nat}(h:Z3 c d l a i j)(z:a<j)(hji:j<=i)(hi:i<l.length)(y:c (l.getD j d) (l.getD (j-1) d)<0):Z3 c d (Jm d l j (j-1)) a i (j-1):=by intro p q g n f o;have m:=λk=>yU (d:=d) (l:=l) (i:=j) (j:=j-1) (k:=k) ω;rw [m,m];by_cases eq:q=j;{subst eq;rw [Ã ω,Ä rfl];by_cases b:p=q-1;{rw [Ä b];exact u.asy _ _ y};rw [Ã b,Ã ω];exact h p (q-1) g ω ω ω};rw [Ã o,Ã eq];by_cases b:p=j-1;{rw [Ä b];exact h j q ω ω f eq};rw [Ã b];by_cases e:p=j;{rw [Ä e];exact h (j-1) q ω ω f eq};rw [Ã e];exact h p q g n f eq
end
end Go.Proofs.Tryz
namespace Go.Proofs.Tryz.ao
abbrev V2:=Rat×Rat
def cr (u v:V2):Rat:=u.1*v.2-u.2*v.1
def dt (u v:V2):Rat:=u.1*v.1+u.2*v.2
def mw (u:V2):V2:=(-u.2,u.1)
def up (u:V2):Prop:=u.2>0\/u.2=0/\u.1>0
def dn (u:V2):Prop:=u.2<0\/u.2=0/\u.1<0
def nz (u:V2):Prop:=u.1≠0\/u.2≠0
def uK (u v:V2):Prop:=(up u/\dn v)\/((up u/\up v\/dn u/\dn v)/\cr u v>0)
def IC (a:Rat)(u:V2)(b:Rat)(w:V2):V2:=(a*u.1+b*w.1,a*u.2+b*w.2)
def opp (s r:V2):Prop:=∃c:Rat,c>0/\s.1=-(c*r.1)/\s.2=-(c*r.2)
def nf {u:V2}(h:nz u):up u\/dn u:=by unfold nz at h;unfold up dn;grind
def h_ {u:V2}(h:up u)(y:dn u):False:=by unfold up at h;unfold dn at y;grind
theorem cJ (u v:V2):cr v u=-cr u v:=by unfold cr;grind
def YN (u w r:V2):cr u r*w.1+cr r w*u.1=cr u w*r.1:=by unfold cr;grind
def Iy (u w r:V2):cr u r*w.2+cr r w*u.2=cr u w*r.2:=by unfold cr;grind
def uY (r:V2)(a:Rat)(u:V2)(b:Rat)(w:V2):cr r (IC a u b w)=a*cr r u+b*cr r w:=by unfold cr IC;grind
def uZ (r u:V2):cr r (mw u)=dt r u:=by unfold cr mw dt;grind
def nJ {s r:V2}(h:opp s r)(z:V2):∃c:Rat,c>0/\cr s z=-(c*cr r z)/\cr z s=-(c*cr z r):=by obtain ⟨c,d,a,b⟩:=h;exact ⟨c,d,by unfold cr;rw [a,b];grind,by unfold cr;rw [a,b];grind⟩
def mp {a b:Rat}(u:a>0)(y:b>0):a*b>0:=ŕ u y
def mn {a b:Rat}(u:a≥0)(y:b≥0):a*b≥0:=Wv4 u y
def b1 {u w r:V2}(hu:up u)(hw:dn w)(y:up r)(a:cr u r>0)(b:cr r w<=0)(c:cr u w≥0):False:=by have e:=Iy u w r;unfold up at hu y;unfold dn at hw;have f:cr u r*(-w.2)≥0:=mn χ χ;have g:(-(cr r w))*u.2≥0:=mn χ χ;have i:cr u w*r.2≥0:=mn c χ;have d:cr u r*w.2=0:=χ;have j:w.2=0:=by{rcases Ļ.1 d with h|h<;>grind};have k:w.1<0:=χ;have l:cr r w=-(r.2*w.1):=by{unfold cr;grind};have m:r.2=0:=by{by_cases h:r.2>0;{have:=mp h (show -w.1>0 by grind);grind};grind};have n:r.1>0:=χ;have o:cr u r=-(u.2*r.1):=by{unfold cr;grind};have:=mn (show u.2≥0 by grind) (show r.1≥0 by grind);grind
def b2 {u w r:V2}(hu:up u)(hw:dn w)(y:dn r)(a:cr u r<=0)(b:cr r w>0)(c:cr u w≥0):False:=by have e:=Iy u w r;unfold up at hu;unfold dn at hw y;have g:(-(cr u r))*(-w.2)≥0:=mn χ χ;have i:cr r w*u.2≥0:=mn χ χ;have j:cr u w*(-r.2)≥0:=mn c χ;have d:cr r w*u.2=0:=χ;have k:u.2=0:=by{rcases Ļ.1 d with h|h<;>grind};have f:u.1>0:=χ;have l:cr u w=u.1*w.2:=by{unfold cr;grind};have m:w.2=0:=by{by_cases h:w.2<0;{have:=mp f (show -w.2>0 by grind);grind};grind};have n:w.1<0:=χ;have o:cr r w=-(r.2*w.1):=by{unfold cr;grind};have:=mn (show -r.2≥0 by grind) (show -w.1≥0 by grind);grind
def b3 {u w r:V2}(hu:dn u)(hw:up w)(y:dn r)(a:cr u r>0)(b:cr r w<=0)(c:cr u w≥0):False:=by have e:=Iy u w r;unfold dn at hu y;unfold up at hw;have g:cr u r*w.2≥0:=mn χ χ;have i:(-(cr r w))*(-u.2)≥0:=mn χ χ;have j:cr u w*(-r.2)≥0:=mn c χ;have d:cr u r*w.2=0:=χ;have k:w.2=0:=by{rcases Ļ.1 d with h|h<;>grind};have f:w.1>0:=χ;have l:cr r w=-(r.2*w.1):=by{unfold cr;grind};have m:r.2=0:=by{by_cases h:r.2<0;{have:=mp f (show -r.2>0 by grind);grind};grind};have n:r.1<0:=χ;have o:cr u r=-(u.2*r.1):=by{unfold cr;grind};have:=mn (show -u.2≥0 by grind) (show -r.1≥0 by grind);grind
def b4 {u w r:V2}(hu:dn u)(hw:up w)(y:up r)(a:cr u r<=0)(b:cr r w>0)(c:cr u w≥0):False:=by have e:=Iy u w r;unfold dn at hu;unfold up at hw y;have f:(-(cr u r))*w.2≥0:=mn χ χ;have g:cr r w*(-u.2)≥0:=mn χ χ;have i:cr u w*r.2≥0:=mn c χ;have d:cr r w*u.2=0:=χ;have j:u.2=0:=by{rcases Ļ.1 d with h|h<;>grind};have k:u.1<0:=χ;have l:cr u w=u.1*w.2:=by{unfold cr;grind};have m:w.2=0:=by{by_cases h:w.2>0;{have:=mp h (show -u.1>0 by grind);grind};grind};have n:w.1>0:=χ;have o:cr r w=-(r.2*w.1):=by{unfold cr;grind};have:=mn (show r.2≥0 by grind) (show w.1≥0 by grind);grind
def Y5 {u s r v:V2}(E:cr r v>0)(hu:cr u v>0)(F:cr s v>0)(y:cr r u≥0)(z:cr u s≥0):cr r s≥0:=by have e:cr r s*cr u v=cr r u*cr s v+cr u s*cr r v:=by{unfold cr;grind};have a:=mn y (show cr s v≥0 by grind);have b:=mn z (show cr r v≥0 by grind);by_cases h:cr r s≥0;{exact h};{have:=mp (show -(cr r s)>0 by grind) hu;grind}
def near:∀(D:zA V2)(v:V2),(∃r∈D,cr r v>0)->∃u∈D,cr u v>0/\∀r∈D,cr r v>0->cr r u≥0
 | [],v,⟨r,h,_⟩=>by cases h
 | d::D,v,h=>by
  by_cases y:∃r∈D,cr r v>0
  ·have ⟨u,hu,z,E⟩:=near D v y;by_cases c:cr d v>0
   ·by_cases g:cr d u≥0
    ·refine ⟨u,ø _ hu,z,λr a b=>?_⟩;rcases ç.1 a with rfl|a
     ·exact g
     ·exact E r a b
    ·refine ⟨d,ą ..,c,λr a b=>?_⟩;rcases ç.1 a with rfl|a
     ·unfold cr;grind
     ·have:=cJ d u;exact Y5 b z c (E r a b) χ
   ·refine ⟨u,ø _ hu,z,λr a b=>?_⟩;rcases ç.1 a with rfl|a
    ·exact Å b c
    ·exact E r a b
  ·obtain ⟨r,a,b⟩:=h;rcases ç.1 a with rfl|a
   ·refine ⟨r,ą ..,b,λs e f=>?_⟩;rcases ç.1 e with rfl|e
    ·unfold cr;grind
    ·exact Å ⟨s,e,f⟩ y
   ·exact Å ⟨r,a,b⟩ y
structure HH (D:List V2):Prop where
 nz:∀r∈D,nz r
 cl:∀r∈D,∃s∈D,opp s r
 asc:D.Pairwise uK
def fJ {u v:V2}(hu:up u)(hv:up v):uK u v->cr u v>0:=by rintro (⟨_,h⟩|⟨_,h⟩);{exact (h_ hv h).elim};exact h
def fE {u v:V2}(hu:dn u)(hv:dn v):uK u v->cr u v>0:=by rintro (⟨h,_⟩|⟨_,h⟩);{exact (h_ h hu).elim};exact h
def cO {u v:V2}(hu:dn u)(hv:up v):¬uK u v:=by rintro (⟨h,_⟩|⟨⟨h,_⟩|⟨_,h⟩,_⟩);{exact h_ h hu};{exact h_ h hu};exact h_ hv h
def btw {u w r v:V2}(F:nz u)(M:nz w)(N:nz r)(o:uK u r/\uK r w\/uK w u/\uK u r\/uK r w/\uK w u)(O:cr r v≠0)(E:cr r v>0->cr u r<=0)(z:cr r v<0->cr r w<=0)(c:cr u w≥0):False:=by have d:=cJ u w;have two:cr u r>0->cr r w>0->False:=λa b=>by{by_cases h:cr r v>0;{have:=E h;grind};{have:=z χ;grind}};have f1:cr u r>0->cr r w<=0:=λa=>by{by_cases h:cr r v>0;{have:=E h;grind};exact z χ};have f2:cr r w>0->cr u r<=0:=λa=>by{by_cases h:cr r v>0;{exact E h};{have:=z χ;grind}};rcases nf F with hu|hu<;>rcases nf M with hw|hw<;>rcases nf N with y|y;{rcases o with ⟨a,b⟩|⟨a,b⟩|⟨a,b⟩;{exact two (fJ hu y a) (fJ y hw b)};{have:=fJ hw hu a;grind};{have:=fJ hw hu b;grind}};{rcases o with ⟨a,b⟩|⟨a,b⟩|⟨a,b⟩;{exact cO y hw b};{have:=fJ hw hu a;grind};exact cO y hw a};{rcases o with ⟨a,b⟩|⟨a,b⟩|⟨a,b⟩;{have:=fJ hu y a;exact b1 hu hw y this (f1 this) c};{exact cO hw hu a};exact cO hw hu b};{rcases o with ⟨a,b⟩|⟨a,b⟩|⟨a,b⟩;{have:=fE y hw b;exact b2 hu hw y (f2 this) this c};{exact cO hw hu a};exact cO hw hu b};{rcases o with ⟨a,b⟩|⟨a,b⟩|⟨a,b⟩;{exact cO hu y a};{exact cO hu y b};{have:=fJ y hw a;exact b4 hu hw y (f2 this) this c}};{rcases o with ⟨a,b⟩|⟨a,b⟩|⟨a,b⟩;{exact cO y hw b};{have:=fE hu y b;exact b3 hu hw y this (f1 this) c};exact cO y hw a};{rcases o with ⟨a,b⟩|⟨a,b⟩|⟨a,b⟩;{exact cO hu y a};{exact cO hu y b};{have:=fE hw hu b;grind}};rcases o with ⟨a,b⟩|⟨a,b⟩|⟨a,b⟩;{exact two (fE hu y a) (fE y hw b)};{have:=fE hw hu a;grind};{have:=fE hw hu b;grind}
def Hc (u:V2):V2:=(u.1,-u.2)
def yy (u v:V2):cr (Hc u) (Hc v)=-cr u v:=by unfold cr Hc;grind
def near' (D:zA V2)(v:V2)(h:∃r∈D,cr r v<0):∃w∈D,cr w v<0/\∀r∈D,cr r v<0->cr r w<=0:=by obtain ⟨r,a,b⟩:=h;have ⟨w,hw,c,d⟩:=near (D.map Hc) (Hc v) ⟨Hc r,Wx0 a,by rw [yy];grind⟩;obtain ⟨e,f,rfl⟩:=þ.1 hw;rw [yy] at c;refine ⟨e,f,χ,λr a b=>?_⟩;have:=d (Hc r) (Wx0 a) (by rw [yy];grind);rw [yy] at this;grind
section
variable{D:List V2}(h:HH D){v:V2}(hv:∀r ∈ D,cr r v≠0)
include h hv
theorem sides (y:D≠[]):∃u∈D,∃w∈D,cr u v>0/\cr w v<0/\cr u w≥0 /\ (∀r∈D,cr r v>0->cr u r<=0/\cr r w≥0)/\(∀r∈D,cr r v<0->cr r w<=0/\cr u r≥0):=by have ⟨d,k⟩:=Qr6 D y;have pos:∃r∈D,cr r v>0:=by{by_cases a:cr d v>0;{exact ⟨d,k,a⟩};have ⟨s,g,b⟩:=h.cl d k;have ⟨c,i,e,_⟩:=nJ b v;have:=hv d k;exact ⟨s,g,by rw [e];have:=mp i (show -(cr d v)>0 by grind);grind⟩};have ⟨u,hu,l,o⟩:=near D v pos;have neg:∃r∈D,cr r v<0:=by{have ⟨s,g,b⟩:=h.cl u hu;have ⟨c,i,e,_⟩:=nJ b v;exact ⟨s,g,by rw [e];have:=mp i l;grind⟩};have ⟨w,hw,q,p⟩:=near' D v neg;have A:∀r∈D,cr r v>0->cr r w≥0:=λr f a=>by{have ⟨s,g,b⟩:=h.cl r f;have ⟨c,i,e,_⟩:=nJ b v;have ⟨t,j,m,_⟩:=nJ b w;have:=p s g (by rw [e];have:=mp i a;grind);rw [m] at this;by_cases n:cr r w≥0;{exact n};{have:=mp j (show -(cr r w)>0 by grind);grind}};have B:∀r∈D,cr r v<0->cr u r≥0:=λr f a=>by{have ⟨s,g,b⟩:=h.cl r f;have ⟨c,i,e,_⟩:=nJ b v;have ⟨t,j,m,_⟩:=nJ b u;have:=o s g (by rw [e];have:=mp i (show -(cr r v)>0 by grind);grind);rw [m] at this;have x:=cJ r u;by_cases n:cr u r≥0;{exact n};{have:=mp j (show cr r u>0 by grind);grind}};refine ⟨u,hu,w,hw,l,q,A u hu l,λr f a=>⟨?_,A r f a⟩,λr f a=>⟨p r f a,B r f a⟩⟩;have:=o r f a;have x:=cJ u r;grind
omit hv in
theorem mU {i j:Nat}{a b:V2}(hi:D[i]?=some a)(u:D[j]?=some b)(hij:i<j):uK a b:=by have ⟨c,d⟩:=đ.1 hi;have ⟨e,f⟩:=đ.1 u;have:=Qb2.1 h.asc i j c e hij;rwa [d,f] at this
theorem ZE (y:D≠[]):∃i u w,D[i]?=some u/\D[(i+1)%D.length]?=some w/\cr u v>0/\cr w v<0/\cr u w≥0 /\ (∀r∈D,cr r v>0->cr u r<=0/\cr r w≥0)/\(∀r∈D,cr r v<0->cr r w<=0/\cr u r≥0):=by have ⟨u,hu,w,hw,l,m,f,g,k⟩:=sides h hv y;have ⟨i,c⟩:=Qf3 hu;have ⟨j,b⟩:=Qf3 hw;have li:i<D.length:=(đ.1 c).1;have q:j<D.length:=(đ.1 b).1;have s:i≠j:=λe=>by{subst e;rw [c] at b;cases b;grind};refine ⟨i,u,w,c,?_,l,m,f,g,k⟩;by_cases e:(i+1)%D.length=j;{rw [e];exact b};have n:(i+1)%D.length<D.length:=ę _ ω;obtain ⟨r,d⟩:∃r,D[(i+1)%D.length]?=some r:=⟨_,ñ n⟩;have hm:r∈D:=Ď d;refine (btw (h.nz u hu) (h.nz w hw) (h.nz r hm) (v:=v) ?_ (hv r hm) (λa=>(g r hm a).1) (λa=>(k r hm a).1) f).elim;by_cases o:i+1<D.length;{rw [ė o] at d e;by_cases p:i<j;{exact .inl ⟨mU h c d ω,mU h d b ω⟩};exact .inr (.inl ⟨mU h b c ω,mU h c d ω⟩)};{have:i+1=D.length:=ω;rw [this,Wy4] at d e;exact .inr (.inr ⟨mU h d b ω,mU h b c ω⟩)}
end
def nz_of {r:V2}(h:nz r){c:Rat}(u:c*r.1=0)(y:c*r.2=0):c=0:=by rcases Ļ.1 u with e|e;{exact e};rcases Ļ.1 y with a|a;{exact a};unfold nz at h;grind
def sq_pos {u:V2}(h:nz u):dt u u>0:=by have a:∀x:Rat,x*x≥0:=λx=>by{by_cases b:x≥0;{exact mn b b};{have:=mn (show -x≥0 by grind) (show -x≥0 by grind);grind}};have:=a u.1;have:=a u.2;by_cases c:u.1*u.1+u.2*u.2>0;{exact c};grind [nz,Rat.mul_eq_zero.1]
def J7 (u w v':V2):Prop:=cr u w>0/\(∃a b:Rat,a>0/\b>0/\v'=IC a u b w)\/cr u w<=0/\∃a:Rat,a>0/\v'=IC a (mw u) 0 w
section
variable{D:List V2}(h:HH D)
include h
theorem Jg {v u w v':V2}(hu:u∈D)(hw:w∈D)(u1:cr u v>0)(N:cr w v<0)(O:cr u w≥0)(E:∀r∈D,cr r v>0->cr u r<=0/\cr r w≥0)(F:∀r∈D,cr r v<0->cr r w<=0/\cr u r≥0)(M:J7 u w v'){r:V2}(y:r∈D):(cr r v>0->cr r v'>0)/\(cr r v<0->cr r v'<0):=by rcases M with ⟨c,a,b,d,j,rfl⟩|⟨c,a,d,rfl⟩;{have key:cr r u=0->cr r w=0->False:=λl m=>by{have:=YN u w r;have:=Iy u w r;have s:=cJ u r;have:=nz_of (h.nz r y) (c:=cr u w) χ χ;grind};have s:=cJ u r;rw [uY];constructor;{intro p;have ⟨g,e⟩:=E r y p;have f:=mn (show a≥0 by grind) (show cr r u≥0 by grind);have i:=mn (show b≥0 by grind) e;by_cases z:cr r u=0;{have:=mp j (show cr r w>0 by grind);grind};{have:=mp d (show cr r u>0 by grind);grind}};intro p;have ⟨g,e⟩:=F r y p;have f:=mn (show a≥0 by grind) (show -(cr r u)≥0 by grind);have i:=mn (show b≥0 by grind) (show -(cr r w)≥0 by grind);by_cases z:cr r u=0;{have:=mp j (show -(cr r w)>0 by grind);grind};{have:=mp d (show -(cr r u)>0 by grind);grind}};have z:cr u w=0:=χ;rw [uY,uZ];have k:=sq_pos (h.nz u hu);by_cases n:cr r v=0;{exact ⟨λp=>χ,λp=>χ⟩};have pl:cr u r=0:=by{have l:=YN u w v;have m:=Iy u w v;have s1:=cJ v w;have s2:=cJ u r;have o:cr u v*cr r w=cr w v*cr r u:=by{have:cr u v*w.1=cr w v*u.1:=χ;have:cr u v*w.2=cr w v*u.2:=χ;unfold cr at *;grind};by_cases q:cr u r=0;{exact q};by_cases p:cr r v>0;{have ⟨g,e⟩:=E r y p;have f:=mn (show cr u v≥0 by grind) e;have i:=mp (show -(cr w v)>0 by grind) (show cr r u>0 by grind);grind};have ⟨g,e⟩:=F r y χ;have f:=mn (show cr u v≥0 by grind) (show -(cr r w)≥0 by grind);have i:=mp (show -(cr w v)>0 by grind) (show -(cr r u)>0 by grind);grind};have id:cr r v*dt u u=cr u v*dt r u:=by{have:cr r v*dt u u-cr u v*dt r u=cr u r*(-(dt u v)):=by{unfold cr dt;grind};grind};constructor;{intro p;have f:=mp p k;have:dt r u>0:=by{by_cases q:dt r u>0;{exact q};{have:=mn (show cr u v≥0 by grind) (show -(dt r u)≥0 by grind);grind}};have:=mp d this;grind};intro p;have f:=mp (show -(cr r v)>0 by grind) k;have:-(dt r u)>0:=by{by_cases q:-(dt r u)>0;{exact q};{have:=mn (show cr u v≥0 by grind) (show dt r u≥0 by grind);grind}};have:=mp d this;grind
end
def anti1 {u w s:V2}(z:nz u)(E:nz w)(F:nz s)(o:uK s u/\uK u w\/uK u w/\uK w s\/uK w s/\uK s u)(a:cr u s>0)(b:cr s w>0)(c:cr u w>0):False:=by have l:=Iy u w s;have m:=YN u w s;have s1:=cJ u s;have s2:=cJ s w;rcases nf z with hu|hu<;>rcases nf E with hw|hw<;>rcases nf F with y|y;{rcases o with ⟨p,q⟩|⟨p,q⟩|⟨p,q⟩;{have:=fJ y hu p;grind};{have:=fJ hw y q;grind};{have:=fJ hw y p;grind}};{unfold up at hu hw;unfold dn at y;have i:=mn (show cr u s≥0 by grind) (show w.2≥0 by grind);have j:=mn (show cr s w≥0 by grind) (show u.2≥0 by grind);have k:=mn (show cr u w≥0 by grind) (show -s.2≥0 by grind);have d:cr u s*w.2=0:=χ;have e:cr s w*u.2=0:=χ;have f:w.2=0:=by{rcases Ļ.1 d with h|h<;>grind};have g:u.2=0:=by{rcases Ļ.1 e with h|h<;>grind};unfold cr at c;rw [f,g] at c;grind};{rcases o with ⟨p,q⟩|⟨p,q⟩|⟨p,q⟩;{have:=fJ y hu p;grind};{exact cO hw y q};exact cO hw y p};{rcases o with ⟨p,q⟩|⟨p,q⟩|⟨p,q⟩;{exact cO y hu p};{have:=fE hw y q;grind};exact cO y hu q};{rcases o with ⟨p,q⟩|⟨p,q⟩|⟨p,q⟩;{exact cO hu hw q};{exact cO hu hw p};{have:=fJ hw y p;grind}};{rcases o with ⟨p,q⟩|⟨p,q⟩|⟨p,q⟩;{exact cO hu hw q};{exact cO hu hw p};{have:=fE y hu q;grind}};{unfold dn at hu hw;unfold up at y;have i:=mn (show cr u s≥0 by grind) (show -w.2≥0 by grind);have j:=mn (show cr s w≥0 by grind) (show -u.2≥0 by grind);have k:=mn (show cr u w≥0 by grind) (show s.2≥0 by grind);have d:cr u s*w.2=0:=χ;have e:cr s w*u.2=0:=χ;have f:w.2=0:=by{rcases Ļ.1 d with h|h<;>grind};have g:u.2=0:=by{rcases Ļ.1 e with h|h<;>grind};unfold cr at c;rw [f,g] at c;grind};rcases o with ⟨p,q⟩|⟨p,q⟩|⟨p,q⟩;{have:=fE y hu p;grind};{have:=fE hw y q;grind};{have:=fE hw y p;grind}
def anti2 {u w s:V2}(E:nz u)(z:nz w)(F:nz s)(o:uK s u/\uK u w\/uK u w/\uK w s\/uK w s/\uK s u)(a:cr u s>0)(c:cr u w<=0):False:=by have s1:=cJ u s;rcases nf E with hu|hu<;>rcases nf F with y|y;{rcases o with ⟨p,q⟩|⟨p,q⟩|⟨p,q⟩;{have:=fJ y hu p;grind};{rcases nf z with hw|hw;{have:=fJ hu hw p;grind};exact cO hw y q};{have:=fJ y hu q;grind}};{rcases o with ⟨p,q⟩|⟨p,q⟩|⟨p,q⟩;{exact cO y hu p};{rcases nf z with hw|hw;{have:=fJ hu hw p;grind};exact b2 hu y hw c (fE hw y q) χ};exact cO y hu q};{rcases o with ⟨p,q⟩|⟨p,q⟩|⟨p,q⟩;{rcases nf z with hw|hw;{exact cO hu hw q};{have:=fE hu hw q;grind}};{rcases nf z with hw|hw;{exact cO hu hw p};{have:=fE hu hw p;grind}};rcases nf z with hw|hw;{exact b4 hu y hw c (fJ hw y p) χ};exact cO hw y p};rcases o with ⟨p,q⟩|⟨p,q⟩|⟨p,q⟩;{have:=fE y hu p;grind};{rcases nf z with hw|hw;{exact cO hu hw p};{have:=fE hu hw p;grind}};{have:=fE y hu q;grind}
section
variable{D:List V2}(h:HH D)
include h
theorem cyc {i k:Nat}{u w s:V2}(hi:D[i]?=some u)(hw:D[(i+1)%D.length]?=some w)(y:D[k]?=some s)(E:k≠i)(z:k≠(i+1)%D.length):uK s u/\uK u w\/uK u w/\uK w s\/uK w s/\uK s u:=by have li:i<D.length:=(đ.1 hi).1;have c:k<D.length:=(đ.1 y).1;by_cases b:i+1<D.length;{rw [ė b] at hw z;by_cases a:k<i;{exact .inl ⟨mU h y hi a,mU h hi hw ω⟩};exact .inr (.inl ⟨mU h hi hw ω,mU h hw y ω⟩)};{have:i+1=D.length:=ω;rw [this,Wy4] at hw z;exact .inr (.inr ⟨mU h hw y ω,mU h y hi ω⟩)}
theorem sm_gen {i:Nat}{u w v':V2}(hi:D[i]?=some u)(hw:D[(i+1)%D.length]?=some w)(M:J7 u w v'):∀r∈D,cr r v'≠0:=by intro r f z;have hu:u∈D:=Ď hi;have g:w∈D:=Ď hw;have o:=sq_pos (h.nz u hu);have t:=sq_pos (h.nz r f);rcases M with ⟨c,a,b,n,B,rfl⟩|⟨c,a,n,rfl⟩;{have key:∀s∈D,cr s (IC a u b w)=0->cr u s>0->False:=λs M z p=>by{have s1:=cJ u s;rw [uY,s1] at z;have q:cr s w>0:=by{by_cases q:cr s w>0;{exact q};{have:=mp n p;have:=mn (show b≥0 by grind) (show -(cr s w)≥0 by grind);grind}};have ⟨k,d⟩:=Qf3 M;refine anti1 (h.nz u hu) (h.nz w g) (h.nz s M) (cyc h hi hw d (λe=>?_) (λe=>?_)) p q c;{rw [e,hi] at d;cases d;unfold cr at p;grind};rw [e,hw] at d;cases d;unfold cr at q;grind};by_cases p:cr u r>0;{exact key r f z p};have ⟨s,M,j⟩:=h.cl r f;have ⟨k,l,v,m⟩:=nJ j u;obtain ⟨C,x,y,_⟩:=nJ j (IC a u b w);by_cases q:cr u r=0;{have s1:=cJ u r;rw [uY,s1,q] at z;have:b*cr r w=0:=χ;have A:cr r w=0:=by{rcases Ļ.1 this with e|e<;>grind};have E:=YN u w r;have F:=Iy u w r;have:=nz_of (h.nz r f) (c:=cr u w) χ χ;grind};refine key s M (by rw [y,z];grind) ?_;rw [m];have:=mp l (show -(cr u r)>0 by grind);grind};have key:∀s∈D,cr u s>0->False:=λs M p=>by{have ⟨k,d⟩:=Qf3 M;refine anti2 (h.nz u hu) (h.nz w g) (h.nz s M) (cyc h hi hw d (λe=>?_) (λe=>?_)) p c;{rw [e,hi] at d;cases d;unfold cr at p;grind};rw [e,hw] at d;cases d;grind};rw [uY,uZ] at z;have d0:dt r u=0:=by{have:a*dt r u=0:=χ;rcases Ļ.1 this with e|e<;>grind};have G:cr u r≠0:=λe=>by{have:cr u r*cr u r+dt r u*dt r u=dt u u*dt r r:=by{unfold cr dt;grind};have:=mp o t;grind};by_cases p:cr u r>0;{exact key r f p};have ⟨s,M,j⟩:=h.cl r f;have ⟨k,l,v,m⟩:=nJ j u;refine key s M ?_;rw [m];have:=mp l (show -(cr u r)>0 by grind);grind
def Xn (D S:List V2):Prop:=(D=[]/\S=[(1,0)])\/D≠[]/\(∀x∈S,∃i u w,D[i]?=some u/\D[(i+1)%D.length]?=some w/\J7 u w x) /\
 ∀i u w,D[i]?=some u->D[(i+1)%D.length]?=some w->∃x∈S,J7 u w x
theorem Bw {S:zA V2}(y:Xn D S):∀x∈S,∀r∈D,cr r x≠0:=by rcases y with ⟨rfl,rfl⟩|⟨_,d,_⟩;{intro x _ r e;cases e};intro x f;have ⟨i,u,w,a,b,c⟩:=d x f;exact sm_gen h a b c
theorem QW {S:zA V2}(y:Xn D S){v:V2}(hv:∀r∈D,cr r v≠0):∃x∈S,∀r∈D,(cr r v>0->cr r x>0)/\(cr r v<0->cr r x<0):=by rcases y with ⟨rfl,rfl⟩|⟨c,_,d⟩;{exact ⟨_,õ.2 rfl,λr a=>by cases a⟩};have ⟨i,u,w,b,hw,e,f,g,j,k⟩:=ZE h hv c;have ⟨x,l,m⟩:=d i u w b hw;exact ⟨x,l,λr a=>Jg h (Ď b) (Ď hw) e f g j k m a⟩
end
def ab_le (x:Rat):∃y:Rat,y≥0/\x<=y/\-x<=y:=by by_cases h:x≥0;{exact ⟨x,h,χ,χ⟩};exact ⟨-x,χ,χ,χ⟩
def pert1 (v:V2)(hv:nz v)(r:V2)(u:nz r):∃e:Rat,e>0/\∀t:Rat,0<t->t<=e ->(cr r v>0->cr r (IC 1 v t (mw v))>0)/\(cr r v<0->cr r (IC 1 v t (mw v))<0)/\cr r (IC 1 v t (mw v))≠0:=by have key:∀t:Rat,cr r (IC 1 v t (mw v))=cr r v+t*dt r v:=λt=>by{rw [uY,uZ];grind};by_cases z:cr r v=0;{have d0:dt r v≠0:=λe=>by{have:cr r v*cr r v+dt r v*dt r v=dt r r*dt v v:=by{unfold cr dt;grind};have:=mp (sq_pos u) (sq_pos hv);grind};refine ⟨1,χ,λt t0 _=>?_⟩;rw [key];refine ⟨λh=>χ,λh=>χ,λh=>?_⟩;have:t*dt r v=0:=χ;rcases Ļ.1 this with e|e<;>grind};have ⟨y,f,g,i⟩:=ab_le (dt r v);obtain ⟨x,c,a,b⟩:∃x:Rat,x>0/\(cr r v>0->x=cr r v)/\(cr r v<0->x=-(cr r v)):=by{by_cases p:cr r v>0;{exact ⟨cr r v,p,λ_=>rfl,λh=>χ⟩};exact ⟨-(cr r v),χ,λh=>χ,λ_=>rfl⟩};have d:y+1>0:=χ;have inv:(y+1)⁻¹>0:=Qt8.2 d;refine ⟨x*(y+1)⁻¹,mp c inv,λt t0 j=>?_⟩;have k:t*(y+1)<=x:=by{have:=mn (show x*(y+1)⁻¹-t≥0 by grind) (show y+1≥0 by grind);have e:(y+1)⁻¹*(y+1)=1:=Rat.inv_mul_cancel _ χ;have:x*(y+1)⁻¹*(y+1)=x:=by{rw [Wk3,e,Rat.mul_one]};grind};have l:=mn (show t≥0 by grind) (show y-dt r v≥0 by grind);have m:=mn (show t≥0 by grind) (show y+dt r v≥0 by grind);rw [key];refine ⟨λh=>?_,λh=>?_,λh=>?_⟩;{have:=a h;grind};{have:=b h;grind};by_cases p:cr r v>0;{have:=a p;grind};{have:=b χ;grind}
def pert (v:V2)(hv:nz v):∀R:zA V2,(∀r∈R,nz r)->∃e:Rat,e>0/\∀t:Rat,0<t->t<=e->∀r∈R,(cr r v>0->cr r (IC 1 v t (mw v))>0)/\(cr r v<0->cr r (IC 1 v t (mw v))<0)/\cr r (IC 1 v t (mw v))≠0
 | [],_=>⟨1,χ,λt _ _ r u=>by cases u⟩
 | r::R,h=>by
  have ⟨e,y,he⟩:=pert v hv R λr u=>h r (ø _ u);have ⟨f,f0,b⟩:=pert1 v hv r (h r (ą ..))
  obtain ⟨g,c,d,i⟩:∃g:Rat,g>0/\g<=e/\g<=f:=by
   by_cases q:e<=f
   ·exact ⟨e,y,χ,q⟩
   ·exact ⟨f,f0,χ,χ⟩
  refine ⟨g,c,λt t0 j s a=>?_⟩;rcases ç.1 a with rfl|a
  ·exact b t t0 χ
  ·exact he t t0 χ s a
def turned (v:V2)(hv:nz v)(R:zA V2)(h:∀r∈R,nz r):∃x:V2,∀r∈R,(cr r v>0->cr r x>0)/\(cr r v<0->cr r x<0)/\cr r x≠0:=by have ⟨e,a,he⟩:=pert v hv R h;exact ⟨_,he e a χ⟩
end Go.Proofs.Tryz.ao
namespace Go.Proofs.Tryz
open Go.Eng
def tL (V:Ó)(g:Nat)(y:Value):Prop:=V.at ⟨g,0,none⟩ y
def tL.le {V V':un}{g:Nat}{y:um}(h:tL V g y)(l:V.Le V'):tL V' g y:=l.at h
def SErr (y:Value):Prop:=∃a:Addr,y=.iface 383 (.pointer (some a))
end Go.Proofs.Tryz
namespace Go.Eng
open Go.Big
variable{ds:List Nat}{p:OA}{c n:Nat}{V:Ó}
def ay {x:Int}(h:-9223372036854775808<=x/\x<=9223372036854775807):i64.wrap x=x:=IntWalk.i64_in x h
def ŵ{x e:Int}(h:-9223372036854775808<=x/\x<=9223372036854775807:=by first|omega|(dsimp only;omega))(g:x=e:=by first|rfl|omega):i64.wrap x=e:=by rw [ay h,g]
def bw {x:Int}(h:0<=x/\x<=18446744073709551615):u64.wrap x=x:=IntWalk.u64_in x h
def xF {x:Int}(h:0<=x/\x<=4294967295):u32.wrap x=x:=IntWalk.u32_in x h
def k_ (x:Int):u32.wrap x=x%4294967296:=by rw [IntKind.wrap_u32]
def Aw (x:Int):u64.wrap x=x%18446744073709551616:=by rw [IntKind.wrap_u64]
def xz {x:Int}:x.fdiv (2^32)=x/4294967296:=by rw [Wy1 _ φ];rfl
def WH {x:Int}:x.fdiv (2^63)=x/9223372036854775808:=by rw [Wy1 _ φ];rfl
theorem Lv (a b:Nat)(u:a<4294967296)(y:b<4294967296):b_ .or .u64 ((a:Int)*4294967296) (b:Int)=(a:Int)*4294967296+b:=by have c:((a:Int)*4294967296)=((a*2^32:Nat):Int):=ψ;rw [b_,c,Aw];have d:(BitVec.ofInt IntKind.u64.bits ((a*2^32:Nat):Int) ||| BitVec.ofInt IntKind.u64.bits (b:Int)).toNat=a*2^32+b:=by{show (BitVec.ofInt 64 ((a*2^32:Nat):Int) ||| BitVec.ofInt 64 (b:Int)).toNat=_;rw [Ŝ,Ŝ,Wj4,Š,Š,ė ω,ė ω];have:=Wq6 (b:=b) (i:=32) ω a;grind [Nat.shiftLeft_eq]};omega
def aQ (ds:List Nat):List Value:=ds.map λ(d:Nat)=>Value.int .u32 (d:Int)
@[simp] theorem u32s_len (ds:List Nat):(aQ ds).length=ds.length:=by simp [aQ]
def bV (ds:zA Nat)(i x:Nat):(aQ ds).set i (Ô .u32 (x:Int))=aQ (ds.set i x):=by simp [aQ]
def dZ (n:Nat):List.replicate n (Value.int .u32 0)=aQ (List.replicate n 0):=by simp [aQ]
theorem ja {i:Nat}(h:i<ds.length):(aQ ds)[i]?=some (Ô .u32 (ds[i]:Int)):=by simp [aQ,h]
theorem HD (ds:zA Nat)(k:Nat):aQ (ds.take k)=(aQ ds).take k:=by simp [aQ,Wk1]
def Ti (ds:zA Nat)(k:Nat):aQ (ds.drop k)=(aQ ds).drop k:=by simp [aQ,Wk2]
def Aa (a b:zA Nat):aQ (a++b)=aQ a++aQ b:=by simp [aQ]
def Ó.Le.sl {V V':un}(h:V.Le V'){a:OA}{xs:zA um}(u:V.sl a xs):V'.sl a xs:=
 λi v hv=>let ⟨ad,e,y⟩:=u i v hv;⟨ad,e,h.at y⟩
structure RD (V:Ó) (p:OA) (n c:Nat) (ds:List Nat):Prop where
 len:n=ds.length
 cap:n<=c
 sl:V.sl p (aQ ds)
 gi:cP ds
 Ll:p.isNone=true->c=0
def RD.le {V V':un}(h:RD V p n c ds)(l:V.Le V'):RD V' p n c ds:=⟨h.len,h.cap,l.sl h.sl,h.gi,h.Ll⟩
def RD.nil:RD V none 0 0 []:=⟨rfl,Ù _,λi v h=>by simp [aQ] at h,cP.nil,λ_=>rfl⟩
theorem RD.take (h:RD V p n c ds){k:Nat}(u:k<=n):RD V p k c (ds.take k):=by have:=h.len;refine ⟨by simp;omega,by have:=h.cap;omega,λi v hv=>h.sl i v ?_,h.gi.take k,h.Ll⟩<;>grind [HD]
def RD.rd (h:RD V p n c ds){i:Int}{K:Int->Prop}(j:Nat)(u:i=j)(y:j<ds.length)(z:K ((ds[j]:Nat):Int)):(p.isSome=true)/\(0<=i/\i<(n:Int))/\∃x:Int,(∃a,af p (i.toNat*1)=some a/\V.at a (Ô .u32 x))/\K x:=by have ⟨b,e,d⟩:=h.sl j _ (ja y);have:=h.len;subst u;refine ⟨by rw [e];rfl,ų,_,⟨b.add j,?_,d⟩,z⟩;rw [e];simp [af]
theorem dM {b:Nat}{xs:zA um}{ty:TypeId}{m:Nat×Nat}(h:V.bo b (.cells xs.toArray ty m)){i:Nat}{v:um}(hv:xs[i]?=some v):V.at ⟨b,i,none⟩ v:=by refine ⟨h.1,?_⟩;unfold World.cell?;rw [h.2];simpa using hv
theorem add_zero' (b i:Nat):(⟨b,0,none⟩:Addr).add i=⟨b,i,none⟩:=by unfold Addr.add;split;{rename_i h;simp_all};simp
def RD.bo {b:Nat}{ds:zA Nat}{ty:TypeId}{m:Nat×Nat}(h:V.bo b (.cells (aQ ds).toArray ty m))(u:cP ds)(y:n=ds.length)(z:n<=c):RD V (some ⟨b,0,none⟩) n c ds:=
 ⟨y,z,λi v hv=>⟨_,rfl,by rw [add_zero'];exact dM h hv⟩,u,λe=>nomatch e⟩
end Go.Eng
namespace Go.Proofs.Tryz
open Go.Eng Go.Shelf
def nU {k : Nat}{f B : Func}(h : prog.funcs[k]? = some f)(u : (f.name == "runtime.NumGoroutine")=false := by kernel_rfl)(e : f={ B with name := f.name } := by kernel_rfl) : Bears prog k B := ⟨_, u, h.m (Æ some e)⟩
def JW {k:Nat}{f B:Func}(h:prog.funcs[k]?=some f)(e:f=B:=by kernel_rfl):prog.funcs[k]?=some B:=h.m (Æ some e)
abbrev layL:Ren:=⟨λ|6=>133|15=>194|14=>193|28=>243|29=>244|20=>235|21=>236|22=>237|23=>238|24=>239|25=>240|26=>241|27=>242|46=>278|47=>279|48=>280|49=>281|50=>282|57=>297|n=>n,λ|22=>157|24=>127|25=>224|3=>3|39=>247|0=>0|53=>245|55=>239|4=>4|46=>316|45=>315|50=>320|5=>5|9=>9|66=>354|70=>358|76=>371|77=>372|n=>n,λn=>n⟩
def Hr:SlLaysF0.n6 prog layL:=
 ⟨ζ,nU func133,nU func193,JW func194,nU func235,nU func236,nU func237,nU func238,nU func239,nU func240,nU func241,nU func242,JW func243,JW func244,nU func278,JW func279,JW func280,nU func281,nU func282,nU func297,underlying0,isAgg0,sizeOf0,zeroValue0,underlying3,isAgg3,sizeOf3,zeroValue3,underlying4,isAgg4,sizeOf4,zeroValue4,underlying5,isAgg5,sizeOf5,zeroValue5,underlying9,isAgg9,sizeOf9,zeroValue9,underlying157,isAgg157,sizeOf157,zeroValue157,underlying224,isAgg224,sizeOf224,zeroValue224,underlying247,isAgg247,sizeOf247,zeroValue247,underlying315,isAgg315,sizeOf315,zeroValue315,underlying316,isAgg316,sizeOf316,zeroValue316,underlying320,isAgg320,sizeOf320,zeroValue320,underlying245,isAgg245,sizeOf245,zeroValue245,underlying239,isAgg239,sizeOf239,zeroValue239,underlying354,isAgg354,sizeOf354,zeroValue354,underlying358,isAgg358,sizeOf358,zeroValue358,underlying371,isAgg371,sizeOf371,zeroValue371,underlying372,isAgg372,sizeOf372,zeroValue372⟩
def aggL:∀w,(isAgg (layL.t 24)).run prog w=.ok true w:=isAgg127
def sizL:∀w,(Go.sizeOf (layL.t 24)).run prog w=.ok 9 w:=sizeOf127
abbrev layP:Ren:=⟨λ|6=>162|15=>194|14=>211|28=>243|29=>244|20=>260|21=>261|22=>262|23=>263|24=>264|25=>265|26=>266|27=>267|46=>291|47=>279|48=>280|49=>292|50=>293|57=>310|n=>n,λ|22=>184|24=>113|25=>255|3=>3|39=>247|0=>0|53=>245|55=>239|4=>4|46=>316|45=>315|50=>320|5=>5|9=>9|66=>354|70=>358|76=>371|77=>372|n=>n,λn=>n⟩
def Hs:SlLaysF0.n6 prog layP:=
 ⟨ζ,nU func162,nU func211,JW func194,nU func260,nU func261,nU func262,nU func263,nU func264,nU func265,nU func266,nU func267,JW func243,JW func244,nU func291,JW func279,JW func280,nU func292,nU func293,nU func310,underlying0,isAgg0,sizeOf0,zeroValue0,underlying3,isAgg3,sizeOf3,zeroValue3,underlying4,isAgg4,sizeOf4,zeroValue4,underlying5,isAgg5,sizeOf5,zeroValue5,underlying9,isAgg9,sizeOf9,zeroValue9,underlying184,isAgg184,sizeOf184,zeroValue184,underlying255,isAgg255,sizeOf255,zeroValue255,underlying247,isAgg247,sizeOf247,zeroValue247,underlying315,isAgg315,sizeOf315,zeroValue315,underlying316,isAgg316,sizeOf316,zeroValue316,underlying320,isAgg320,sizeOf320,zeroValue320,underlying245,isAgg245,sizeOf245,zeroValue245,underlying239,isAgg239,sizeOf239,zeroValue239,underlying354,isAgg354,sizeOf354,zeroValue354,underlying358,isAgg358,sizeOf358,zeroValue358,underlying371,isAgg371,sizeOf371,zeroValue371,underlying372,isAgg372,sizeOf372,zeroValue372⟩
def aggP:∀w,(isAgg (layP.t 24)).run prog w=.ok true w:=isAgg113
def sizP:∀w,(Go.sizeOf (layP.t 24)).run prog w=.ok 6 w:=sizeOf113
abbrev layC:Ren:=⟨λ|6=>247|15=>194|14=>285|28=>243|29=>244|20=>300|21=>301|22=>302|23=>303|24=>304|25=>305|26=>306|27=>307|46=>311|47=>279|48=>280|49=>312|50=>313|57=>314|n=>n,λ|22=>325|24=>328|25=>330|3=>3|39=>247|0=>0|53=>245|55=>239|4=>4|46=>316|45=>315|50=>320|5=>5|9=>9|66=>354|70=>358|76=>371|77=>372|n=>n,λn=>n⟩
def Hq:SlLaysF0.n6 prog layC:=
 ⟨ζ,nU func247,nU func285,JW func194,nU func300,nU func301,nU func302,nU func303,nU func304,nU func305,nU func306,nU func307,JW func243,JW func244,nU func311,JW func279,JW func280,nU func312,nU func313,nU func314,underlying0,isAgg0,sizeOf0,zeroValue0,underlying3,isAgg3,sizeOf3,zeroValue3,underlying4,isAgg4,sizeOf4,zeroValue4,underlying5,isAgg5,sizeOf5,zeroValue5,underlying9,isAgg9,sizeOf9,zeroValue9,underlying325,isAgg325,sizeOf325,zeroValue325,underlying330,isAgg330,sizeOf330,zeroValue330,underlying247,isAgg247,sizeOf247,zeroValue247,underlying315,isAgg315,sizeOf315,zeroValue315,underlying316,isAgg316,sizeOf316,zeroValue316,underlying320,isAgg320,sizeOf320,zeroValue320,underlying245,isAgg245,sizeOf245,zeroValue245,underlying239,isAgg239,sizeOf239,zeroValue239,underlying354,isAgg354,sizeOf354,zeroValue354,underlying358,isAgg358,sizeOf358,zeroValue358,underlying371,isAgg371,sizeOf371,zeroValue371,underlying372,isAgg372,sizeOf372,zeroValue372⟩
def aggC:∀w,(isAgg (layC.t 24)).run prog w=.ok true w:=isAgg328
def sizC:∀w,(Go.sizeOf (layC.t 24)).run prog w=.ok 5 w:=sizeOf328
abbrev Vd:Ren:=⟨λ|133=>252|128=>243|n=>n,λ|51=>245|3=>3|4=>4|46=>247|5=>5|9=>9|n=>n,λn=>n⟩
def Lg:Lays.n133 prog Vd:=
 ⟨ζ,JW func243,JW func252,underlying3,isAgg3,sizeOf3,zeroValue3,underlying4,isAgg4,sizeOf4,zeroValue4,underlying5,isAgg5,sizeOf5,zeroValue5,underlying9,isAgg9,sizeOf9,zeroValue9,underlying247,isAgg247,sizeOf247,zeroValue247,underlying245,isAgg245,sizeOf245,zeroValue245⟩
abbrev SE:Ren:=⟨λ|264=>287|n=>n,λ|53=>239|46=>247|n=>n,λn=>n⟩
def He:Lays.n264 prog SE:=
 ⟨ζ,JW func287,underlying247,isAgg247,sizeOf247,zeroValue247,underlying239,isAgg239,sizeOf239,zeroValue239⟩
end Go.Proofs.Tryz
namespace Go.Big
def dL (n:Nat):Nat:=if n=0 then 0 else n.log2+1
def wO (n:Nat):n<2^dL n:=by unfold dL;split;{subst_vars;decide};exact Nat.lt_log2_self
def Bq {n:Nat}(h:n≠0):2^(dL n-1)<=n:=by unfold dL;rw [Ã h];exact Nat.log2_self_le h
def Kg {n b:Nat}(y:n<2^b)(u:b=0\/2^(b-1)<=n):dL n=b:=by rcases u with u|u;{subst u;have:n=0:=by{simpa using y};subst this;rfl};have a:n≠0:=by{have:=ĵ (b-1);omega};have c:=wO n;have d:=Bq a;have e:¬dL n<b:=λh=>by{have:=ķ (n:=2) ω (show dL n<=b-1 by omega);omega};have f:¬b<dL n:=λh=>by{have:=ķ (n:=2) ω (show b<=dL n-1 by omega);omega};omega
def jJ {n b:Nat}:dL n<=b↔n<2^b:=by constructor;{intro h;exact Ľ (wO n) (ķ ω h)};intro h;rcases ē b (dL n) with a|a;{have c:n≠0:=by{intro e;subst e;simp [dL] at a};have:=Bq c;have:=ķ (n:=2) ω (show b<=dL n-1 by omega);omega};exact a
end Go.Big
namespace Go.Proofs.Tryz
open Go.Eng Go.Big Go.Proofs Go.Shelf
variable{V:Ó}
theorem kd (a k:Nat):((a:Nat):Int).fdiv (2^k)=((a/2^k:Nat):Int):=χ
def F_ {f:FuncId}{args:Array um}{V:un}{v:um}(u:iQ prog f)(h:Calls prog f args V.w λe w'=>e=.returned v/\w'=V.w):À f args V λr _=>r=v:=
 ⟨u,h.s λe w' ⟨a,b⟩=>by subst b;exact ⟨v,a,kQ.refl _ _,rfl⟩⟩
theorem lt_bl:∀x:Nat,x<2^64->x<2^Lib.bitLen x:=by
 intro x
 induction x using Nat.strongRecOn<;>grind [Lib.bitLen_half]
def bl_eq {x:Nat}(h:x<2^64:=by omega):Lib.bitLen x=dL x:=
 Nat.le_antisymm (Lib.bitLen_le x _ (jJ.2 h) (wO x)) (jJ.2 (lt_bl x h))
def js (x:Nat)(u:x<4294967296):À 252 #[Ô .u32 (x:Int)] V λr W=>r=Ô .i64 (32-(dL x:Int)):=by have h:=F_ (V:=V) ⟨_,Lg.f133,rfl,ζ⟩ (Any.bits_LeadingZeros32 Lg (x:Int) V.w ω ω);rw [Ý,bl_eq] at h;exact h
def and64 (a:Nat)(u:a<18446744073709551616:=by omega):b_ .and .u64 (a:Int) 4294967295=((a%4294967296:Nat):Int):=by rw [b_,Aw];have b:(BitVec.ofInt IntKind.u64.bits ((a:Nat):Int) &&& BitVec.ofInt IntKind.u64.bits 4294967295).toNat=a%4294967296:=by{show (BitVec.ofInt 64 ((a:Nat):Int) &&& BitVec.ofInt 64 ((4294967295:Nat):Int)).toNat=_;rw [Ŝ,Ŝ,BitVec.toNat_and,Š,Š,ė ω,ė ω];have:=Nat.and_two_pow_sub_one_eq_mod a 32;exact this};omega
def X2 (x y:Nat)(u:x<18446744073709551616)(z:y<18446744073709551616:=by omega):À 287 #[Ô .u64 (x:Int),Ô .u64 (y:Int)] V λr W=>r=å #[Ô .u64 ((x*y/18446744073709551616:Nat):Int),Ô .u64 ((x*y%18446744073709551616:Nat):Int)]:=
 F_ (V:=V) ⟨_,He.f264,rfl,ζ⟩ (Any.bits_Mul64 He x y u z V.w)
def XZ (x y c:Nat)(u:x<4294967296)(z:y<4294967296)(E:c<4294967296:=by omega):À 204 #[Ô .u32 (x:Int),Ô .u32 (y:Int),Ô .u32 (c:Int)] V λr W=>r=å #[Ô .u32 (((x+y+c)%4294967296:Nat):Int),Ô .u32 (((x+y+c)/4294967296:Nat):Int)]:=by refine vI V _ ⟨ω,λd e=>?_⟩;simp (disch:=omega) only [bw,k_,xz];have a:((x:Int)+y+c)%4294967296=(((x+y+c)%4294967296:Nat):Int):=ω;have b:((x:Int)+y+c)/4294967296%4294967296=(((x+y+c)/4294967296:Nat):Int):=ω;rw [a,b]
end Go.Proofs.Tryz
namespace Go.Proofs.Tryz
open Go.Eng Go.Big
variable{c e n:Nat}{V:Ó}{p q:OA}{ds xa xb:List Nat}
def and32 (a b:Nat)(u:a<4294967296)(y:b<4294967296):b_ .and .u32 (a:Int) (b:Int)=((a &&& b:Nat):Int):=by have c:(BitVec.ofInt IntKind.u32.bits ((a:Nat):Int) &&& BitVec.ofInt IntKind.u32.bits ((b:Nat):Int)).toNat=a &&& b:=by{show (BitVec.ofInt 32 ((a:Nat):Int) &&& BitVec.ofInt 32 ((b:Nat):Int)).toNat=_;rw [Ŝ,Ŝ,BitVec.toNat_and,Š,Š,ė ω,ė ω]};have d:a &&& b<2^32:=Qp4 a ω;rw [b_,k_,c];omega
def or32 (a b:Nat)(u:a<4294967296)(y:b<4294967296):b_ .or .u32 (a:Int) (b:Int)=((a ||| b:Nat):Int):=by have c:(BitVec.ofInt IntKind.u32.bits ((a:Nat):Int) ||| BitVec.ofInt IntKind.u32.bits ((b:Nat):Int)).toNat=a ||| b:=by{show (BitVec.ofInt 32 ((a:Nat):Int) ||| BitVec.ofInt 32 ((b:Nat):Int)).toNat=_;rw [Ŝ,Ŝ,Wj4,Š,Š,ė ω,ė ω]};have d:a ||| b<2^32:=Wz8 ω ω;rw [b_,k_,c];omega
def Xe (a b:Nat)(u:a<4294967296)(y:b<4294967296):b_ .xor .u32 (a:Int) (b:Int)=((a ^^^ b:Nat):Int):=by have c:(BitVec.ofInt IntKind.u32.bits ((a:Nat):Int) ^^^ BitVec.ofInt IntKind.u32.bits ((b:Nat):Int)).toNat=a ^^^ b:=by{show (BitVec.ofInt 32 ((a:Nat):Int) ^^^ BitVec.ofInt 32 ((b:Nat):Int)).toNat=_;rw [Ŝ,Ŝ,BitVec.toNat_xor,Š,Š,ė ω,ė ω]};have d:a ^^^ b<2^32:=Qd9 ω ω;rw [b_,k_,c];omega
def top32 (h:n<4294967296):n/2147483648=if n.testBit 31 then 1 else 0:=by rw [Qg8];have:(2:Nat)^31=2147483648:=φ;rw [this];split;{rename_i a;simp at a;omega};rename_i a;simp at a;omega
def PR {n:Nat}(h:n<4294967296:=by omega):n.testBit 31=decide (2147483648<=n):=by rw [Qg8];have:(2:Nat)^31=2147483648:=φ;rw [this];congr 1;simp;omega
def T1 (x y c:Nat)(u:x<4294967296)(z:y<4294967296)(E:c<=1){d:Nat}(F:(d:Int)=((x:Int)-y-c)%4294967296):(((4294967295 ^^^ x) &&& y) ||| ((4294967295 ^^^ (x ^^^ y)) &&& d))/2147483648=if x<y+c then 1 else 0:=by have j:(4294967295 ^^^ x)<2^32:=Qd9 ω ω;have b:x ^^^ y<2^32:=Qd9 ω ω;have k:=Qd9 ω b;have e:(4294967295 ^^^ x) &&& y<2^32:=Qp4 _ ω;have f:(4294967295 ^^^ (x ^^^ y)) &&& d<2^32:=Qp4 _ ω;rw [top32 (Wz8 e f)];have a:d<4294967296:=ω;rw [Nat.testBit_or,Nat.testBit_and,Nat.testBit_and,Wj5,Wj5,Wj5,PR u,PR z,PR a,PR (n:=4294967295)];by_cases g:2147483648<=x<;>by_cases h:2147483648<=y<;>by_cases i:2147483648<=d<;>simp [g,h,i]<;>omega
def X6 (x y c:Nat)(u:x<4294967296)(z:y<4294967296)(E:c<=1:=by omega):À 205 #[Ô .u32 (x:Int),Ô .u32 (y:Int),Ô .u32 (c:Int)] V λr W=>∃d b:Nat,r=å #[Ô .u32 (d:Int),Ô .u32 (b:Int)]/\d<4294967296/\b<=1/\d+(y+c)=x+4294967296*b:=by refine vK V _ ⟨ω,λn o=>?_⟩;obtain ⟨d,g⟩:∃d:Nat,(d:Int)=((x:Int)-y-c)%4294967296:=⟨(((x:Int)-y-c)%4294967296).toNat,ω⟩;have a:d<4294967296:=ω;have h:u32.wrap (u32.wrap ((x:Int)-y)-c)=(d:Int):=by{rw [k_,k_];omega};have i:IntKind.u32.max=((4294967295:Nat):Int):=rfl;have j:(4294967295 ^^^ x)<2^32:=Qd9 ω ω;have f:x ^^^ y<2^32:=Qd9 ω ω;have k:(4294967295 ^^^ (x ^^^ y))<2^32:=Qd9 ω f;have l:(4294967295 ^^^ x) &&& y<2^32:=Qp4 _ ω;have m:(4294967295 ^^^ (x ^^^ y)) &&& d<2^32:=Qp4 _ ω;rw [h,i,Xe _ _ ω u,and32 _ _ j z,Xe _ _ u z,Xe _ _ ω f,and32 _ _ k a,or32 _ _ l m,kd];have e:(2:Nat)^31=2147483648:=φ;rw [e,T1 x y c u z E g];refine ⟨d,_,rfl,a,?_,?_⟩;{split<;>omega};split<;>omega
def X0 (hi lo y:Nat)(u:hi<y)(z:lo<4294967296)(E:y<4294967296):À 202 #[Ô .u32 (hi:Int),Ô .u32 (lo:Int),Ô .u32 (y:Int)] V λr W=>r=å #[Ô .u32 (((hi*4294967296+lo)/y:Nat):Int),Ô .u32 (((hi*4294967296+lo)%y:Nat):Int)]:=by have key:∀b:un,Value.tuple #[Ô .u32 (u32.wrap (u64.wrap ((b_ .or .u64 (u64.wrap ((u64.wrap (hi:Int))*2^32)) (u64.wrap (lo:Int))).tdiv (u64.wrap (y:Int))))),Ô .u32 (u32.wrap ((b_ .or .u64 (u64.wrap ((u64.wrap (hi:Int))*2^32)) (u64.wrap (lo:Int))).tmod (u64.wrap (y:Int))))]=å #[Ô .u32 (((hi*4294967296+lo)/y:Nat):Int),Ô .u32 (((hi*4294967296+lo)%y:Nat):Int)]:=by{intro _;have c:((2:Int)^32)=4294967296:=φ;have d:u64.wrap (hi:Int)=hi:=bw ω;have e:u64.wrap (lo:Int)=lo:=bw ω;have a:u64.wrap (y:Int)=y:=bw ω;have f:u64.wrap ((hi:Int)*4294967296)=(hi:Int)*4294967296:=bw ω;rw [d,c,f,e,a,Lv _ _ ω z];have g:(hi:Int)*4294967296+lo=((hi*4294967296+lo:Nat):Int):=ω;rw [g,<-Int.ofNat_tdiv,<-Wy9];have m:(hi*4294967296+lo)/y<4294967296:=by{rw [Qb9 ω];have:(hi+1)*4294967296<=y*4294967296:=Ă _ u;omega};have n:(hi*4294967296+lo)%y<y:=ę _ ω;generalize (hi*4294967296+lo)/y=q at *;generalize (hi*4294967296+lo)%y=r at *;have i:u64.wrap (q:Int)=q:=bw ω;have j:u32.wrap (q:Int)=q:=xF ω;have k:u32.wrap (r:Int)=r:=xF ω;rw [i,j,k]};have a:u64.wrap (y:Int)=y:=bw ω;refine vJ V _ ⟨λ_=>⟨λh=>?_,λ_=>⟨ω,by rw [a];omega,by rw [a];omega,λb l=>key b⟩⟩,λ_=>⟨ω,by rw [a];omega,by rw [a];omega,λb l=>key b⟩⟩;simp at h;omega
def bE (h:RD V p n c ds)(hm:ds.length<=4611686018427387904:=by omega):À 268 #[yG p n c] V λr W=>∃k,r=yG p k c/\RD W p k c (cZ ds):=by refine MG V _ ?_;refine ⟨λz V'=>z.1=p/\z.2.2=c/\z.2.1<=ds.length/\cZ (ds.take z.2.1)=cZ ds/\RD V' p z.2.1 c (ds.take z.2.1),λz=>z.2.1,⟨(p,n,c),⟨rfl,rfl,rfl⟩,rfl,rfl,?_⟩,?_⟩;{have:=h.len;subst this;simp;exact h};rintro ⟨q,k,i⟩ l m ⟨rfl,rfl,j,e,d⟩;dsimp only at j e d ⊢;refine ⟨rfl,λa=>?_,λa=>?_⟩;{have a:0<k:=by{simpa using a};simp (disch:=omega) only [ay];have o:(ds.take k).length=k:=by{simp;omega};have f:ds.take k=ds.take (k-1)++[ds[k-1]]:=by{rw [<-Qz3 ω,Qm6 a]};refine d.rd (k-1) ω ω ⟨λb=>?_,λb=>?_⟩;{have b:ds[k-1]=0:=by{simpa using b};refine ⟨⟨ω,by have:=d.cap;omega⟩,(q,k-1,i),ω,⟨rfl,ω,rfl⟩,rfl,rfl,ω,?_,?_⟩;{dsimp only;rw [<-e,f,b,kJ]};{have:=d.take (k:=k-1) ω;dsimp only;rwa [Wq1,Ħ ω] at this}};have b:ds[k-1]≠0:=by{simpa using b};refine λV2 g=>⟨k,rfl,?_⟩;rw [<-e,f,vF _ _ b,<-f];exact ra};have a:k=0:=by{simpa using a};subst a;refine λV2 g=>⟨0,rfl,?_⟩;rw [<-e];exact d.le g
def rj (h:RD V p n c ds)(hm:ds.length<=2^40:=by omega):À 270 #[yG p n c] V λr W=>∃q k u,r=yG q k u/\RD W q k u ds:=by have f:=h.len;refine A9 V _ ⟨λa l m=>⟨_,_,_,rfl,?_⟩,λa=>⟨aQ ds,h.sl,by simp [f],ω,ω,ψ,by simp [f],?_,?_⟩⟩;{have a:p=none:=by{simpa using a};subst a;have:ds=[]:=by{rcases ĺ ds.length with e|e;{exact ĕ.1 e};obtain ⟨o,e,-⟩:=h.sl 0 _ (ja e);cases e};subst this;exact RD.nil};{intro v hv;simp only [aQ,þ] at hv;obtain ⟨d,-,rfl⟩:=hv;rfl};intro s J sp u g t l m b j;refine ⟨_,_,_,rfl,?_⟩;simp only [ĉ,ŝ,Qf6,Œ] at j g ⊢;exact ⟨f,g,λi v hv=>⟨_,rfl,by rw [add_zero'];exact dM j (by rw [ĳ (by rcases ē i (aQ ds).length with e|e;exact e;rw [Ŧ e] at hv;cases hv)];exact hv)⟩,h.gi,λe=>nomatch e⟩
abbrev RN (V:Ó)(p:OA)(n c:Nat)(x:Nat):Prop:=RD V p n c (ai x)
def lN (h:RD V p n c ds)(hm:ds.length<=2^40):À 221 #[yG p n c] V λr W=>∃q k u,r=yG q k u/\RN W q k u (val ds):=by refine MC V _ λa b=>(bE ra).s ?_;rintro r V2 d ⟨k,rfl,e⟩;refine ⟨_,_,_,rfl,λf g=>(rj ra (by have:=oR ds;omega)).s ?_⟩;rintro r i j ⟨q,l,u,rfl,m⟩;refine ⟨_,_,_,rfl,λo s=>⟨_,_,_,rfl,?_⟩⟩;unfold RN;rw [<-bg h.gi];exact ra
def vW (h:RD V p n c ds)(hm:ds.length<=2^40):À 222 #[yG p n c] V λr W=>r=dB (decide (ai (val ds)=ds)):=by have d:=h.len;refine FH V _ ⟨λa e f=>?_,λa=>?_⟩;{have:ds=[]:=ĕ.1 (by simp at a;omega);subst this;rfl};have a:0<n:=by{simp at a;omega};simp (disch:=omega) only [ay];refine h.rd (n-1) ω ω λe f=>?_;congr 1;rw [ģ];simp only [bne_iff_ne,ne_eq,Ñ];subst d;constructor;{intro b;exact wA h.gi (zT λ_=>by simpa using b)};intro he b;have:zy ds:=by{rw [<-he];exact kg _};exact this.last ω (by simpa using b)
def fN (u:Int)(z:0<=u)(E:u<18446744073709551616:=by omega):À 255 #[Ô .u64 u] V λr W=>∃q k y,r=yG q k y/\RN W q k y u.toNat:=by obtain ⟨u,rfl⟩:=ď z;refine AQ V _ ⟨ω,λe g f a=>?_⟩;rw [xz,k_,xF ω] at a;have a:e.bo f (.cells (aQ [u%4294967296,u/4294967296]).toArray 245 (0,0)):=by{simpa [aQ] using a};have b:cP [u%4294967296,u/4294967296]:=by{simp [cP];omega};refine (bE (RD.bo a b (n:=2) (c:=2) rfl (Ù _)) ψ).s ?_;rintro r V2 h ⟨k,rfl,d⟩;refine ⟨_,_,_,rfl,λ_ i j=>⟨_,_,_,rfl,?_⟩⟩;rw [bg b] at d;have:val [u%4294967296,u/4294967296]=(u:Int).toNat:=by{simp;omega};rw [this] at d;exact ra
def Gv {m:Nat}(N:RD V p n c xa)(O:RD V q m e xb)(hm:xa.length<=2^40)(Z:xb.length<=2^40:=by omega):À 269 #[yG p n c,yG q m e] V λr W=>r=Ô .i64 (nE (val xa) (val xb)):=by have la:=oR xa;have lb:=oR xb;refine Pj V _ λH I=>(bE ra).s ?_;rintro r V2 J ⟨n,rfl,g⟩;refine ⟨_,_,_,rfl,λK B=>(bE ra).s ?_⟩;rintro r L C ⟨m,rfl,j⟩;refine ⟨_,_,_,rfl,?_⟩;replace g:=g.le (B.m C);rw [bg N.gi] at g la;rw [bg O.gi] at j lb;generalize val xa=x at *;generalize val xb=y at *;have D:=g.len;have E:=j.len;refine ⟨λh=>⟨λd w A=>?_,λd w A=>?_⟩,λh=>?_⟩;{have:=oI (a:=x) (b:=y) (by simp at d;omega);rw [nE,Ä this]};{have:=oI (a:=y) (b:=x) (by simp at h d;omega);rw [nE,Ã ω,Ä this]};have h:n=m:=by{simp at h;omega};subst h;simp (disch:=omega) only [ay];refine ⟨λz V'=>-1<=z/\z<n/\(ai x).drop (z+1).toNat=(ai y).drop (z+1).toNat,λz=>(z+1).toNat,⟨_,η,ω,ω,?_⟩,?_⟩;{(try dsimp only);rw [ľ ω,ľ ω]};rintro i M k ⟨o,s,t⟩;dsimp only at o s t ⊢;refine ⟨θ,λd=>?_,λd w A=>?_⟩;{have d:0<=i:=by{simpa using d};obtain ⟨i,rfl⟩:=ď d;simp (disch:=omega) only [ay];have f:(ai x).drop (i+1)=(ai y).drop (i+1):=t;refine (g.le k).rd i rfl ω ((j.le k).rd i rfl ω ⟨λu F G=>?_,λu=>?_⟩);{have:=mV (aS x) ω ω f (by simpa using u);rw [ag,ag] at this;rw [nE,Ä this]};refine (g.le k).rd i rfl ω ((j.le k).rd i rfl ω ⟨λv F G=>?_,λv=>?_⟩);{have:=mV (aS y) ω ω f.symm (by simpa using v);rw [ag,ag] at this;rw [nE,Ã ω,Ä this]};refine ⟨_,?_,η,?_,?_,?_⟩;{(try dsimp only);omega};{(try dsimp only);omega};{(try dsimp only);omega};(try dsimp only);have:((i:Int)-1+1).toNat=i:=ω;rw [this,ī ω,ī (l:=ai y) ω,f];congr 1;simp at u v;omega};have d:i=-1:=by{simp at d;omega};subst d;have:ai x=ai y:=by{simpa using t};have:=wz this;subst this;simp [nE]
def BJ {E A B c d x y W:Nat}(h:E+W*c=A+B)(u:d=c+x+y:=by omega):E+W*(d%4294967296)+W*4294967296*(d/4294967296)=A+W*x+(B+W*y):=by have a:W*(d%4294967296)+W*4294967296*(d/4294967296)=W*d:=by{rw [ņ,<-İ,Qh2]};rw [Ŋ,a,u,İ,İ];omega
def RY {m:Nat}(ha:RD V p n c xa)(hb:RD V q m e xb)(hm:xa.length<=2^40)(hn:xb.length<=2^40):À 289 #[yG p n c,yG q m e] V λr W=>∃p' n' c',r=yG p' n' c'/\RN W p' n' c' (val xa+val xb):=by
 have A:=ha.len;have B:=hb.len;refine Ph V _ ⟨λz V'=>∃xs b,RD V' z.1 z.2.1 z.2.2.1 xs/\RD V' z.2.2.2.1 z.2.2.2.2.1 z.2.2.2.2.2 b/\b.length<=xs.length/\xs.length<=2^40/\val xs+val b=val xa+val xb,⟨λC=>?_,λC=>?_⟩,?_⟩
 ·exact ⟨(_,_,_,_,_,_),η,xb,xa,hb,ha,by simp at C;omega,hn,ω⟩
 ·exact ⟨(_,_,_,_,_,_),η,xa,xb,ha,hb,by simp at C;omega,hm,rfl⟩
 ·rintro ⟨p,n,c,q,m,e⟩ M N ⟨xs,b,w,x,O,hm,hv⟩;dsimp only at w x ⊢;rw [<-hv];clear hv ha hb A B;have K:=w.len;have P:=x.len;simp (disch:=omega) only [ay,dZ];have D:((n:Int)+1).toNat=n+1:=ω
  rw [D]
  refine ⟨θ,ω,ω,ω,λz V'=>0<=z.1/\z.1<=1/\0<=z.2.1/\z.2.1<=n/\∃es:zA Nat,z.2.2=aQ es/\es.length=n+1/\cP es /\
   val (es.take z.2.1.toNat)+4294967296^z.2.1.toNat*z.1.toNat=val (xs.take z.2.1.toNat)+val (b.take z.2.1.toNat),λz=>n-z.2.1.toNat,⟨(0,0,aQ (List.replicate (n+1) 0)),η,by (try dsimp only);omega,by (try dsimp only);omega,by (try dsimp only);omega,by (try dsimp only);omega,_,rfl,ψ,cP.rep _,ψ⟩,?_⟩
  rintro ⟨f,i,Q⟩ V2 J ⟨l,E,o,F,es,rfl,G,s,hv⟩;dsimp only at l E o F hv ⊢;obtain ⟨i,rfl⟩:=ď o;obtain ⟨f,rfl⟩:=ď l;simp only [Ý] at hv;refine ⟨θ,λj=>?_,λj=>?_⟩
  ·have j:i<n:=by simpa using j
   refine (w.le J).rd i rfl ω ?_;have R:=w.gi.get (i:=i) ω
   have next:∀d:Nat,d<8589934592->val (es.take i)+4294967296^i*(d%4294967296)+4294967296^i*4294967296*(d/4294967296)=val (xs.take (i+1))+val (b.take (i+1)) ->
     ∃a:zA Nat,(aQ es).set i (Ô .u32 ((d%4294967296:Nat):Int))=aQ a/\a.length=n+1/\cP a /\
     val (a.take (i+1))+4294967296^(i+1)*(d/4294967296)=val (xs.take (i+1))+val (b.take (i+1)):=by
    intro d S he;refine ⟨es.set i (d%4294967296),bV _ _ _,by simpa using G,s.set _ _ ω,?_⟩;rw [aX _ _ _,Ĩ];exact he
   refine ⟨λg=>?_,λg=>?_⟩
   ·have g:i<m:=by{simpa using g};refine (x.le J).rd i rfl ω ?_;have L:=x.gi.get (i:=i) ω;simp (disch:=omega) only [bw,ay,k_,xz];refine ⟨ų,by simp;omega,ω,(_,_,_),?_,η,?_⟩;{(try dsimp only);omega};(try dsimp only);have h:((i:Int)+1).toNat=i+1:=ω;have ⟨a,t,u,H,I⟩:=next (f+xs[i]+b[i]) ω (by rw [aG _ _,aG _ _];exact BJ hv rfl);refine ⟨ω,ω,ω,ω,a,?_,u,H,?_⟩;{rw [<-t];simp};rw [h,<-I];congr 2
   ·have g:m<=i:=by simpa using g
    simp (disch:=omega) only [bw,ay,k_,xz];refine ⟨ų,by simp;omega,ω,(_,_,_),?_,η,?_⟩
    ·(try dsimp only);omega
    ·(try dsimp only)
     have h:((i:Int)+1).toNat=i+1:=ω
     have ⟨a,t,u,H,I⟩:=next (f+xs[i]) ω (by
      rw [aG _ _,ax (ds:=b) (i:=i+1)];have:=BJ (y:=0) hv (d:=f+xs[i]) rfl
      rwa [ax (ds:=b),Ĭ,ġ] at this)
     refine ⟨ω,ω,ω,ω,a,?_,u,H,?_⟩
     ·rw [<-t];simp
     ·rw [h,<-I];congr 2
  ·have j:i=n:=by{simp at j;omega};subst j;simp (disch:=omega) only [xF];refine ⟨ų,by simp;omega,λT U W hb=>?_⟩;have t:(aQ es).set (0+((i:Int).toNat)*1) (Ô .u32 (f:Int))=aQ (es.set i f):=by{rw [<-bV];simp};rw [t] at hb;have v:=s.set i f ω;refine (bE (RD.bo hb v (n:=i+1) (c:=i+1) (by simp;omega) (Ù _)) (by simp;omega)).s ?_;rintro r X Y ⟨k,rfl,g⟩;refine ⟨_,_,_,rfl,λ_ Z l5=>⟨_,_,_,rfl,?_⟩⟩;rw [bg v] at g;have u:val (es.set i f)=val xs+val b:=by{have:=aX es i f;rw [ax (by simp;omega)] at this;rw [this,hv,ax,ax]};rw [u] at g;exact ra
def WT {E A B x y W:Nat}(h:E+B=A+W*c){v:Int}(u:c<=1)(z:x<4294967296)(F:y<4294967296)(hv:v=((x:Int)-(c+y))%18446744073709551616):0<=v/\v/9223372036854775808<=1/\0<=v/9223372036854775808/\E+W*(v%4294967296).toNat+(B+W*y)=A+W*x+W*4294967296*(v/9223372036854775808).toNat:=by rcases ē x (c+y) with d|d;{have e:v=18446744073709551616+(x:Int)-(c+y):=ω;have a:(v/9223372036854775808).toNat=1:=ω;have b:(v%4294967296).toNat+(c+y)=x+4294967296:=ω;refine ⟨ω,ω,ω,?_⟩;rw [a,Ģ];have:=Æ (W*·) b;simp only [İ] at this;omega};have e:v=(x:Int)-(c+y):=ω;have a:(v/9223372036854775808).toNat=0:=ω;have b:(v%4294967296).toNat+(c+y)=x:=ω;refine ⟨ω,ω,ω,?_⟩;rw [a,Ĭ,ġ];have:=Æ (W*·) b;simp only [İ] at this;omega
def NJ {m:Nat}{xs ys:zA Nat}(Z:RD V p n c xs)(hy:RD V q m e ys)(hm:xs.length<=2^40)(hl:ys.length<=xs.length)(hle:val ys<=val xs):À 309 #[yG p n c,yG q m e] V λr W=>∃p' n' c',r=yG p' n' c'/\RN W p' n' c' (val xs-val ys):=by
 have C:=Z.len;have M:=hy.len
 refine ME V _ ⟨ω,ω,ω,λz V'=>0<=z.1/\z.1<=1/\0<=z.2.1/\z.2.1<=n/\∃es:zA Nat,z.2.2=aQ es/\es.length=n/\cP es /\
   val (es.take z.2.1.toNat)+val (ys.take z.2.1.toNat)=val (xs.take z.2.1.toNat)+4294967296^z.2.1.toNat*z.1.toNat,λz=>n-z.2.1.toNat,
   ⟨(0,0,List.replicate n (Ô .u32 0)),η,by (try dsimp only);omega,by (try dsimp only);omega,by (try dsimp only);omega,by (try dsimp only);omega,List.replicate n 0,dZ n,ψ,cP.rep _,ψ⟩,?_⟩
 rintro ⟨j,i,N⟩ V2 A ⟨l,s,o,u,es,rfl,d,a,hv⟩;dsimp only at l s o u hv ⊢;obtain ⟨i,rfl⟩:=ď o;obtain ⟨j,rfl⟩:=ď l;simp only [Ý] at hv;refine ⟨θ,λf=>?_,λf=>?_⟩
 ·have f:i<n:=by{simpa using f};refine (Z.le A).rd i rfl ω ?_;have D:=Z.gi.get (i:=i) ω;refine ⟨λz V'=>∃y:Nat,z=j+y/\y<4294967296/\val (ys.take (i+1))=val (ys.take i)+4294967296^i*y,⟨λb=>?_,λb=>?_⟩,?_⟩;{have b:i<m:=by{simpa using b};refine (hy.le A).rd i rfl ω ?_;have g:=hy.gi.get (i:=i) ω;simp (disch:=omega) only [bw];exact ⟨_,η,ys[i],rfl,g,aG _ _⟩};{have b:m<=i:=by{simpa using b};exact ⟨_,η,0,ψ,ω,by rw [ax,ax];simp⟩};rintro t E F ⟨y,rfl,g,w⟩;refine ⟨θ,⟨ω,by simpa using f⟩,by simp;omega,ω,?_⟩;simp (disch:=omega) only [bw,ay,Aw,k_,WH];obtain ⟨v,B⟩:∃v:Int,v=((xs[i]:Int)-((j:Int)+(y:Int)))%18446744073709551616:=⟨_,rfl⟩;have ⟨O,G,H,I⟩:=WT hv ω D g B;rw [<-B];refine ⟨(_,_,_),?_,η,?_⟩;{(try dsimp only);omega};(try dsimp only);have x:((i:Int)+1).toNat=i+1:=ω;refine ⟨H,G,ω,ω,es.set i (v%4294967296).toNat,?_,by simpa using d,a.set _ _ ω,?_⟩;{rw [<-bV];congr 2;{simp};omega};rw [x,aX _ _ _,w,I,aG _ _,Ĩ]
 ·have f:i=n:=by{simp at f;omega};subst f;intro E F P J;refine (bE (RD.bo J a (n:=i) (c:=i) d.symm (Ù _))).s ?_;rintro r Q R ⟨k,rfl,b⟩;refine ⟨_,_,_,rfl,λ_ S T=>⟨_,_,_,rfl,?_⟩⟩;rw [bg a] at b;rw [ax,ax,ax] at hv;have K:=je a;rw [d] at K;have L:j=0:=by{rcases ĺ j with h|h;{exact h};{have:4294967296^i*1<=4294967296^i*j:=Ň _ h;omega}};subst L;rw [show val es=val xs-val ys from by omega] at b;exact ra
def iV {a b:Nat}:nE a b<0↔a<b:=by unfold nE;split;{simp;omega};split<;>simp<;>omega
def lA {a b:Nat}:nE a b=0↔a=b:=by unfold nE;split;{simp;omega};split;{simp;omega};simp;omega
def Gx {m:Nat}(E:RD V p n c xa)(N:RD V q m e xb)(hm:xa.length<=2^40)(O:xb.length<=2^40):À 290 #[yG p n c,yG q m e] V λr W=>∃F n' M,r=å #[yG F n' M,dB (decide (val xb<=val xa))]/\RN W F n' M (val xa-val xb):=by refine Po V _ λj b=>(Gv ra ra hm O).s ?_;rintro r V2 k rfl;refine ⟨_,rfl,λa d f=>?_,λa d f=>?_⟩;{have a:val xa<val xb:=by{simpa [iV] using a};rw [Nat.sub_eq_zero_of_le ω,È ω];exact ⟨_,_,_,rfl,RD.nil⟩};have a:val xb<=val xa:=by{simpa [<-Ww6,iV] using a};rw [Ç a];refine (bE ((E.le b).le aA)).s ?_;rintro r l o ⟨s,rfl,g⟩;refine ⟨_,_,_,rfl,λt u=>(bE ((N.le b).le aA)).s ?_⟩;rintro r v w ⟨x,rfl,h⟩;rw [bg E.gi] at g;rw [bg N.gi] at h;have:=bz E.gi;refine ⟨_,_,_,rfl,λy z=>(NJ ra ra ω (aL a) (by rw [ag,ag];exact a)).s ?_⟩;rintro r A B ⟨F,n',M,rfl,i⟩;rw [ag,ag] at i;exact ⟨_,_,_,rfl,λC D=>⟨_,_,_,rfl,ra⟩⟩
end Go.Proofs.Tryz
