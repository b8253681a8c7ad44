import Derived.Test.YtbdlbajodgoneaaGreatDoorS1
set_option linter.all false
open Go.IntKind (i64 u64 u32)
namespace Go.Eng
section
variable{P:Program}{T:eA}{n:Nat}{V0:Ó}{bQ:MN}{β0:Nat->Nat}{st:St}{β:Nat->Nat}{a:Act}{w:World}{V:Ó}
theorem g_ (b o k:Nat):(⟨b,o,none⟩:Addr).add k=⟨b,o+k,none⟩:=by unfold Addr.add;split;{rename_i h;subst h;rfl};rfl
theorem cell_of_row {g o:Nat}{vs:zA un}{ty:TypeId}(h:w.heap[g]?=some (.cells vs.toArray ty (0,0))):w.cell? ⟨g,o,none⟩=vs[o]?:=by simp [World.cell?,h]
theorem KM {g o m:Nat}{vs:zA un}{ty t:TypeId}{info:TypeInfo}{d:TypeDesc}(h:w.heap[g]?=some (.cells vs.toArray ty (0,0)))(u:P.info? t=some info)(y:P.underlying t=some d)(hm:info.size=m)(z:xR (nM d)=true)(D:o+m<=vs.length):(loadVar t ⟨g,o,none⟩).run P w=.ok (.agg ((vs.drop o).take m).toArray) w:=by
 subst hm
 have key:=run_loadCells_list (P:=P) (w:=w) ⟨g,o,none⟩ ((vs.drop o).take info.size) (by
  intro j v a;rw [g_,cell_of_row h];rw [ķ] at a;split at a
  ·rw [Qm3] at a;exact a
  ·cases a)
 rw [ì,į,Ħ ω] at key;simp only [loadVar,Sem.run_bind,jC y,Result.andThen_ok,z,Ï,aT u,key,Sem.run_pure]
def GO {g o:Nat}{vs:zA un}{ty t:TypeId}{d:TypeDesc}{v:un}(h:w.heap[g]?=some (.cells vs.toArray ty (0,0)))(u:P.underlying t=some d)(y:xR (nM d)=false)(z:vs[o]?=some v):(loadVar t ⟨g,o,none⟩).run P w=.ok v w:=by simp only [loadVar,Sem.run_bind,jC u,Result.andThen_ok,y,ő,Ð,run_load,cell_of_row h,z]
def à.row (u:à n V0 bQ β0 st β a w V){s:Nat}{b:a_}(y:st.boxes s=some b)(lb:b.live):w.heap[β s]?=some (.cells (b.cs.den β).toArray b.ty (0,0)):=u.boxes s b y lb
def wz {cs:zA C}{c:C}{s:Nat}(u:c∈cs)(y:s∈c.ids):s∈cs.flatMap C.ids:=ė.2 ⟨c,u,y⟩
def GY (F:à n V0 bQ β0 st β a w V){t:TypeId}{i:TI}(hi:pI P t=some i){x:SV}{sc:zA Prop}{v:SV}(h:mj st.boxes i x=.ret sc v):(Instr.loadAt t (x.den β)).run P w=.ok (v.den β) w/\Ē st v:=by
 obtain ⟨info,d,z,B,y,D,A,E,-⟩:=aN hi;unfold mj at h;split at h
 ·rename_i b o;split at h
  ·rename_i cs ty r;have f:=F.row r dP;have e:=F.Ev b _ r;simp only [ë.den] at f
   have g:xR i.k=true->(if Nat.ble (o+i.size) cs.length then Q.ret [] (.agg ((cs.drop o).take i.size)) else .fail)=.ret sc v ->
     (Instr.loadAt t (SV.den β (.c (.ptr b o)))).run P w=.ok (v.den β) w/\Ē st v:=by
    intro j h;split at h
    ·rename_i u;have u:=Ş u;simp only [Q.ret.injEq] at h;obtain ⟨-,rfl⟩:=h;refine ⟨?_,?_⟩;{grind [KM,Instr.loadAt,Instr.sureAddr,SV.den,C.den,List.map_take,List.map_drop]};intro s l;have ⟨c,m,l⟩:=ė.1 l;exact e s (wz (Qg5 (ţ m)) l)
    ·cases h
   split at h
   ·rename_i j;exact g (by rw [j];rfl) h
   ·rename_i j;exact g (by rw [j];rfl) h
   ·rename_i p q;have j:xR i.k=false:=by{(cases hik:i.k<;>first|rfl|exact Å hik (p _)|exact Å hik (q _ _))};split at h;{rename_i c m;simp only [Q.ret.injEq] at h;obtain ⟨-,rfl⟩:=h;refine ⟨?_,?_⟩;{have:=GO (t:=t) (o:=o) (v:=c.den β) f y (A▸j) (by simp [m]);grind [Instr.loadAt,Instr.sureAddr,SV.den,C.den]};intro s l;exact e s (wz (Qb7 m) l)};cases h
  ·cases h
  ·split at h<;>cases h
  ·cases h
 ·split at h<;>cases h
 ·cases h
def Er.fJ:∀(s:Er) {K:C->Prop},s.ex K->∃c,c.ids=[]/\K c
 | .int _,_,⟨_,h⟩=>⟨_,rfl,h⟩
 | .bool,_,⟨_,h⟩=>⟨_,rfl,h⟩
 | .slice,_,⟨_,_,_,h⟩=>⟨_,rfl,h⟩
 | .ptr,_,⟨_,h⟩=>⟨_,rfl,h⟩
 | .str,_,⟨_,h⟩=>⟨_,rfl,h⟩
 | .any,_,⟨_,h⟩=>⟨_,rfl,h⟩
def wu:∀(l:zA Er) {K:zA C->Prop},exL l K->∃cs,cs.flatMap C.ids=[]/\cs.length=l.length/\K cs
 | [],_,h=>⟨[],rfl,rfl,h⟩
 | s::r,K,h=>by
  have ⟨c,y,u⟩:=Er.fJ s h;have ⟨cs,a,b,d⟩:=wu r u;grind
def BB.fJ:∀(s:BB) {K:SV->Prop},s.ex K->∃x,x.ids=[]/\((∃c,x=.c c/\∃s',s=.one s')\/∃cs l,x=.agg cs/\s=.agg l/\cs.length=l.length)/\K x
 | .one s,K,h=>by have ⟨c,y,u⟩:=Er.fJ s h;exact ⟨.c c,y,.inl ⟨c,rfl,s,rfl⟩,u⟩
 | .agg l,K,h=>by have ⟨cs,a,b,u⟩:=wu l h;exact ⟨.agg cs,a,.inr ⟨cs,l,rfl,rfl,b⟩,u⟩
def Co:∀(l:zA BB) {K:zA (md×zA C)->Prop},exT l K->∃xs,(xs.flatMap λx=>x.2.flatMap C.ids)=[]/\K xs
 | [],_,h=>⟨[],rfl,h⟩
 | .one s::r,K,h=>by
  have ⟨c,y,u⟩:=Er.fJ s h;have ⟨xs,a,b⟩:=Co r u;grind
 | .agg l::r,K,h=>by
  obtain ⟨cs,y,-,u⟩:=wu l h;have ⟨xs,a,b⟩:=Co r u;grind
def Sh.fJ:∀(s:Sh) {K:SV->Prop},s.ex K->∃x,x.ids=[]/\K x
 | .val s,K,h=>by obtain ⟨x,u,-,y⟩:=BB.fJ s h;exact ⟨x,u,y⟩
 | .xP l,K,h=>by have ⟨xs,u,y⟩:=Co l h;exact ⟨.xP xs,u,y⟩
 | .none,K,h=>⟨.xP [],rfl,h⟩
theorem kP {x:SV}(h:x.ids=[])(β β':Nat->Nat):x.den β=x.den β':=SV.cg λs a=>by rw [h] at a;cases a
def cG {x:SV}(h:x.ids=[]):Ē st x:=λs a=>by rw [h] at a;cases a
def Lk:∀(cs:zA C) (p:Addr) (i:Nat) {k:Prop},V.Yk p i cs k->(∀j c,cs[j]?=some c->V.at (p.add (i+j)) (c.den λ_=>0))/\k
 | [],_,_,_,h=>⟨λj c u=>by simp at u,h⟩
 | c::r,p,i,k,⟨z,y⟩=>by
  have ⟨D,E⟩:=Lk r p (i+1) y;grind
theorem à.atV (u:à n V0 bQ β0 st β a w V){p:Addr}{v:un}(h:V.at p v):w.cell? p=some v:=by obtain ⟨d,b⟩:=h;unfold World.cell? at b ⊢;split at b;{rename_i c e f g;rw [(u.tP p.block _ ⟨d,g⟩).1];exact b};cases b
def P_ {i:TI}{l:zA Er}(h:oH i=.agg l):xR i.k=true/\l.length=i.zero.length:=by unfold oH at h;split at h;{rename_i a;simp only [BB.agg.injEq] at h;subst h;exact ⟨by rw [a];rfl,ψ⟩};{rename_i a;simp only [BB.agg.injEq] at h;subst h;exact ⟨by rw [a];rfl,ψ⟩};split at h<;>cases h
def Qf {i:TI}{s:Er}(h:oH i=.one s):xR i.k=false:=by unfold oH at h;split at h;{cases h};{cases h};rename_i a b;(cases hik:i.k<;>first|rfl|exact Å hik (a _)|exact Å hik (b _ _))
def rd_run (O:à n V0 bQ β0 st β a w V){t:TypeId}{i:TI}(hi:pI P t=some i)(hz:i.zero.length=i.size){p:OA}{x:SV}{k:Prop}(Z:x.ids=[])(M:(∃c,x=.c c/\∃s',oH i=.one s')\/∃cs l,x=.agg cs/\oH i=.agg l/\cs.length=l.length)(h:V.Yj p x k):(Instr.loadAt t (.pointer p)).run P w=.ok (x.den β) w/\k:=by
 obtain ⟨info,d,z,r,o,F,q,u,-⟩:=aN hi;rcases M with ⟨c,rfl,s,M⟩|⟨cs,l,rfl,M,y⟩
 ·obtain ⟨⟨f,rfl,g⟩,A⟩:=h;have b:=Qf M;rw [q] at b;refine ⟨?_,A⟩;simp only [Instr.loadAt,Instr.sureAddr,Sem.run_bind,Sem.run_pure,Result.andThen_ok,loadVar,jC o,b,ő,Ð,run_load,O.atV g];rw [kP Z β λ_=>0];rfl
 ·obtain ⟨f,rfl,B⟩:=h;have ⟨b,m⟩:=P_ M;rw [q] at b;have ⟨D,E⟩:=Lk cs f 0 B;refine ⟨?_,E⟩
  have key:=run_loadCells_list (P:=P) (w:=w) f (cs.map (C.den λ_=>0)) (by
   intro j v e;rw [Qt7] at e
   cases N:cs[j]? with
   | none=>rw [N] at e;cases e
   | some c=>
    rw [N] at e;simp only [Ww9,ą] at e;subst e;have:=O.atV (D j c N);simpa using this)
  rw [Č,y,m,hz,u] at key;simp only [Instr.loadAt,Instr.sureAddr,Sem.run_bind,Sem.run_pure,Result.andThen_ok,loadVar,jC o,b,Ï,aT r,key];rw [kP Z β λ_=>0];rfl
def G1 (F:à n V0 bQ β0 st β a w V){t:TypeId}{i:TI}(hi:pI P t=some i){b o:Nat}{vs:zA un}{ty:TypeId}(E:st.boxes b=some ⟨.row vs,ty⟩\/(st.boxes b=some ⟨.aF vs,ty⟩/\i.size≠0)){x:SV}(M:x.ids=[])(D:(∃c,x=.c c/\∃s',oH i=.one s')\/∃cs l,x=.agg cs/\oH i=.agg l/\cs.length=l.length)(h:Ys vs o i.size x):(Instr.loadAt t (SV.den β (.c (.ptr b o)))).run P w=.ok (x.den β) w:=by obtain ⟨info,d,z,p,j,A,k,q,-⟩:=aN hi;have g:w.heap[β b]?=some (.cells vs.toArray ty (0,0)):=by{rcases E with E|⟨E,B⟩;{exact F.row E dQ};refine F.row E (gN λe=>?_);subst e;rcases D with ⟨c,rfl,s,D⟩|⟨cs,l,rfl,D,r⟩;{simp [Ys] at h};{have:=h.1;simp at this;omega}};rcases D with ⟨c,rfl,s,D⟩|⟨cs,l,rfl,D,r⟩;{have f:=Qf D;rw [k] at f;have:=GO (t:=t) (o:=o) g j f h;rw [show SV.den β (.c c)=C.den (λ_=>0) c from kP (x:=.c c) M β _];show (Instr.loadAt t (.pointer (some ⟨β b,o,none⟩))).run P w=_;grind [Instr.loadAt,Instr.sureAddr]};have ⟨f,u⟩:=P_ D;rw [k] at f;obtain ⟨v,y⟩:=h;have:=KM (t:=t) (o:=o) (m:=i.size) g p j q.symm f v;simp only [Instr.loadAt,Instr.sureAddr,C.den,SV.den,Sem.run_bind,Sem.run_pure,Result.andThen_ok,this,y];have:=kP (x:=.agg cs) M β λ_=>0;grind [SV.den]
def one_of {c:C}(h:∀p∈ie c,p):(c.den β).oneCell'=true:=by (cases c with|v x=>{(cases x<;>first|rfl|exact (h False (by simp [ie])).elim)}|w x=>{exact h (x.oneCell'=true) (by simp [ie])}|_=>rfl)
def QR {v:un}(h:v.oneCell'=true):v.cells=#[v]:=by cases v<;>first|rfl|simp [Value.oneCell'] at h
def SV.yj {x:SV}(u:x.CB=false)(h:∀p∈x.ie,p):(x.den β).cells=(x.cells.map (C.den β)).toArray/\∀v∈x.cells.map (C.den β),v.oneCell'=true:=by have b:∀c∈x.cells,(c.den β).oneCell'=true:=λc a=>one_of λp d=>h p (ė.2 ⟨c,a,d⟩);refine ⟨?_,λv e=>by obtain ⟨c,a,rfl⟩:=ÿ.1 e;exact b c a⟩;(cases x with|c c=>{exact QR (b c (by simp [SV.cells]))}|agg cs=>rfl|xP xs=>{cases u})
def mr {g:Nat}{old cs:Array un}{ty:TypeId}(h:w.heap[g]?=some (.cells old ty (0,0))):(w.setRow g cs).heap=w.heap.setIfInBounds g (.cells cs ty (0,0)):=by apply Array.ext_getElem?;grind [setRow_heap,setRow_other]
theorem gR {cs:zA C}{vs:zA un}(h:mX cs=some vs):cs.map (C.den β)=vs/\cs.flatMap C.ids=[]:=by
 induction cs generalizing vs with
 | nil=>simp [mX] at h;subst h;exact ⟨rfl,rfl⟩
 | cons c r u=>
  simp only [mX] at h;split at h
  ·rename_i v ws b a;simp only [ą] at h;subst h;have ⟨d,e⟩:=u a;have:c.den β=v/\c.ids=[]:=by{cases c<;>simp_all [C.val?,C.den,C.ids]};grind
  ·cases h
theorem w_ {cs xs:zA C}{o:Nat}:(Ć cs o xs).map (C.den β)=(cs.map (C.den β)).take o++xs.map (C.den β)++(cs.map (C.den β)).drop (o+xs.length):=by simp [Ć,Wz8,Wz9]
def wZ {cs xs:zA C}{o s:Nat}(h:s∈(Ć cs o xs).flatMap C.ids):s∈cs.flatMap C.ids\/s∈xs.flatMap C.ids:=by have ⟨c,a,b⟩:=ė.1 h;simp only [Ć,ü] at a;grind
def mu {vs xs:zA un}{o:Nat}(h:o+xs.length<=vs.length:=by omega):bG vs o xs=vs.take o++xs++vs.drop (o+xs.length):=by unfold bG;grind [List.set_eq_take_append_cons_drop]
def SV.yk {x:SV}{s:Nat}(u:x.CB=false):s∈x.cells.flatMap C.ids->s∈x.ids:=by cases x<;>grind [SV.cells,SV.ids]
def N5 (hM:à n V0 bQ β0 st β a w V){t:TypeId}{i:TI}(hi:pI P t=some i){av xv:SV}(hx:Ē st xv){sc:zA Prop}{s:Nat}{b:a_}(h:jz st.boxes i av xv=.As sc s b)(hsc:∀p∈sc,p):∃w',(Instr.storeAt t (av.den β) (xv.den β)).run P w=.ok () w'/\à n V0 bQ β0 (st.box s b) β a w' V:=by
 obtain ⟨info,d,z,U,Y,Z,h4,h5,-⟩:=aN hi;unfold jz at h;split at h
 ·rename_i g o;split at h
  ·rename_i k;simp only [Đ,beq_eq,Qd5] at k;obtain ⟨hlen,y⟩:=k
   have core:∀(j:zA un)(ty:TypeId)(L:a_),w.heap[β g]?=some (.cells j.toArray ty (0,0))->(∀p∈xv.ie,p)->o+xv.cells.length<=j.length->L.ty=ty ->
     L.cs.den β=j.take o++xv.cells.map (C.den β)++j.drop (o+xv.cells.length) ->
     ∃w',(Instr.storeAt t (SV.den β (.c (.ptr g o))) (xv.den β)).run P w=.ok () w'/\w'.heap=w.heap.setIfInBounds (β g) (L.obj β)/\w'.os=w.os/\w'.tape=w.tape/\w'.output=w.output/\w.drawn<=w'.drawn:=by
    intro j ty L f A hle N B;have ⟨D,O⟩:=SV.yj (β:=β) y A;have key:=run_storeCells_at (P:=P) (β g) o ty (xv.cells.map (C.den β)) 0 j.toArray w f (by simpa using hle) O;refine ⟨w.setRow (β g) (j.take o++xv.cells.map (C.den β)++j.drop (o+xv.cells.length)).toArray,?_,?_⟩
    ·generalize xv.den β=v at D;show (Instr.storeAt t (.pointer (some ⟨β g,o,none⟩)) v).run P w=_;simp only [Instr.storeAt,Instr.sureAddr,Sem.run_bind,Sem.run_pure,Result.andThen_ok,storeVar,aT U,D];grind
    ·exact ⟨by rw [mr f,a_.obj,B,N],rfl,rfl,rfl,Ú _⟩
   split at h
   ·rename_i cs ty q;split at h;{rename_i W;simp only [Q.As.injEq] at h;obtain ⟨rfl,rfl,rfl⟩:=h;have f:=hM.row q dP;have ⟨w',E,F,G,H,I,J⟩:=core _ _ ⟨.lit (Ć cs o xv.cells),ty⟩ f hsc (by simpa [ë.den,hlen] using (Ş W)) rfl (by simp only [ë.den];exact w_);refine ⟨w',E,hM.As q dP ?_ F G H I J⟩;intro M l;rcases wZ l with R|R;{exact hM.Ev _ _ q M R};exact hx M (SV.yk y R)};cases h
   ·rename_i x ty q;split at h
    ·rename_i xs r;simp only [Q.As.injEq] at h;obtain ⟨rfl,rfl,rfl⟩:=h;have f:=hM.row q dQ;have ⟨m,S⟩:=gR (β:=β) r;have hle:o+i.size<=x.length:=hsc _ ψ;have u:xs.length=i.size:=by rw [<-m,Č,hlen]
     have ⟨w',E,F,G,H,I,J⟩:=core _ _ ⟨.row (bG x o xs),ty⟩ f (λp T=>hsc p (Ń _ T)) (by simpa [ë.den,hlen] using hle) rfl (by
      simp only [ë.den];rw [mu,m,hlen,u])
     exact ⟨w',E,hM.As q dQ (by intro M l;simp [ë.ids] at l) F G H I J⟩
    ·cases h
   ·rename_i x ty q;split at h
    ·cases h
    rename_i X;split at h
    ·rename_i xs r;simp only [Q.As.injEq] at h;obtain ⟨rfl,rfl,rfl⟩:=h;have ⟨m,S⟩:=gR (β:=β) r;have hle:o+i.size<=x.length:=hsc _ ψ
     have K:a_.live ⟨.aF x,ty⟩:=gN λe=>by subst e;simp at hle;exact X (by rw [hle.2];rfl)
     have u:xs.length=i.size:=by rw [<-m,Č,hlen]
     have ⟨w',E,F,G,H,I,J⟩:=core _ _ ⟨.aF (bG x o xs),ty⟩ (hM.row q K) (λp T=>hsc p (Ń _ T)) (by simpa [ë.den,hlen] using hle) rfl (by
      simp only [ë.den];rw [mu,m,hlen,u])
     exact ⟨w',E,hM.As q K (by intro M l;simp [ë.ids] at l) F G H I J⟩
    ·cases h
   ·cases h
  ·cases h
 ·cases h
def Rb (xs:zA un):∀(cs:Array un)(off:Nat),off+xs.length<=cs.size ->(xs.toArray.zipIdx.foldl (λcs (p:un×Nat)=>cs.setIfInBounds (off+p.2) p.1) cs)=(cs.toList.take off++xs++cs.toList.drop (off+xs.length)).toArray:=by
 have gen:∀(xs:zA un)(k:Nat)(cs:zA un)(off:Nat),off+k+xs.length<=cs.length ->
   (xs.zipIdx k).foldl (λ(cs:Array un) (p:un×Nat)=>cs.setIfInBounds (off+p.2) p.1) cs.toArray=(cs.take (off+k)++xs++cs.drop (off+k+xs.length)).toArray:=by
  intro xs
  induction xs with
  | nil=>intro k cs off _;simp
  | cons x r u=>
   intro k cs off h;simp only [Ĉ] at h;simp only [List.zipIdx_cons,ř,List.setIfInBounds_toArray];rw [u (k+1) (cs.set (off+k) x) off (by simp;omega)];congr 1;have a:off+k<cs.length:=ω
   rw [Qs6,Ä a]
   have b:(cs.take (off+k)++x::cs.drop (off+k+1)).take (off+(k+1))=cs.take (off+k)++[x]:=by rw [List.take_append,ō (by simp;omega),ì,Ħ ω,show off+(k+1)-(off+k)=1 from by omega];simp
   have c:(cs.take (off+k)++x::cs.drop (off+k+1)).drop (off+(k+1)+r.length)=cs.drop (off+k+(r.length+1)):=by rw [List.drop_append,ń (by simp;omega),ì,Ħ ω,show off+(k+1)+r.length-(off+k)=r.length+1 from by omega];grind [List.drop_drop]
   rw [b,c];simp
 intro cs off h;have:=gen xs 0 cs.toList off (by simpa using h);simpa [<-Array.foldl_toList] using this
def tv {place:Nat->Option (Nat×Nat)}:∀(z:zA (Nat×SV))(cells out:zA C),uk place cells z=some out ->(∀x∈z,∀v:C,v∈x.2.cells->∀p∈ie v,p) ->Instr.fill place (cells.map (C.den β)).toArray (z.map λx=>(x.1,x.2.den β))=some (out.map (C.den β)).toArray/\(∀s∈out.flatMap C.ids,s∈cells.flatMap C.ids\/∃x∈z,s∈x.2.ids)
 | [],cells,out,h,_=>by
  simp only [uk,ą] at h;subst h;exact ⟨rfl,λs D=>.inl D⟩
 | (i,x)::r,cells,out,h,hone=>by
  simp only [uk] at h;split at h
  ·cases h
  ·rename_i off size u;split at h
   ·rename_i E;simp only [Đ,beq_eq,Qd5] at E;obtain ⟨⟨F,hle⟩,hnt⟩:=E;have hle:=Ş hle;have hnt:x.CB=false:=by simpa using hnt
    have e:∀p∈x.ie,p:=λp u=>by
     have ⟨v,f,u⟩:=ė.1 u;exact hone (i,x) ψ v f p u
    obtain ⟨b,-⟩:=SV.yj (β:=β) hnt e;have ⟨j,g⟩:=tv r _ _ h (λy c=>hone y (ā _ c));refine ⟨?_,?_⟩
    ·simp only [Ł,Instr.fill,u];rw [Ã (by rw [b];simp [F];omega)];rw [b];have:=Rb (x.cells.map (C.den β)) (cells.map (C.den β)).toArray off (by simpa [F] using hle);grind [w_]
    ·intro s D;rcases g s D with d|⟨y,c,d⟩
     ·rcases wZ d with a|a
      ·exact .inl a
      ·exact .inr ⟨(i,x),ψ,SV.yk hnt a⟩
     grind
   ·cases h
def mV (D:à n V0 bQ β0 st β a w V):∀(l:zA (Nat×Operand))(u:zA (Nat×SV)),ù st.bN l=some u ->(l.map λx=>(x.1,a.eval x.2))=(u.map λx=>(x.1,x.2.den β))/\∀x∈u,Ē st x.2
 | [],u,h=>by simp only [ù,ą] at h;subst h;exact ⟨rfl,λx z=>by cases z⟩
 | (i,o)::r,u,h=>by
  simp only [ù] at h;split at h
  ·rename_i x l z E;simp only [ą] at h;subst h;have ⟨F,M⟩:=mV D r l E;refine ⟨by simp [F,D.eval z],λy b=>?_⟩;rcases í.1 b with rfl|b
   ·exact D.live z
   ·exact M y b
  ·cases h
def iG (z:à n V0 bQ β0 st β a w V):∀(l:zA Operand)(xs:zA SV),cS st.bN l=some xs ->l.map a.eval=xs.map (SV.den β)/\∀x∈xs,Ē st x
 | [],xs,h=>by simp only [cS,ą] at h;subst h;exact ⟨rfl,λx u=>by cases u⟩
 | o::r,xs,h=>by
  simp only [cS] at h;split at h
  ·rename_i x l u D;simp only [ą] at h;subst h;have ⟨E,F⟩:=iG z r l D;refine ⟨by simp [E,z.eval u],λy b=>?_⟩;rcases í.1 b with rfl|b
   ·exact z.live u
   ·exact F y b
  ·cases h
def qm (hT:eA.ok P T):∀(gs:zA Field)(pl:zA (Nat×Nat)),iD T (gs.map λf=>(f.type,f.offset))=some pl ->∀w:World,(gs.mapM λf:Field=>do pure (f.offset,<-sizeOf f.type)).run P w=.ok pl w
 | [],pl,h,w=>by simp only [Wk6,iD,ą] at h;subst h;simp
 | f::r,pl,h,w=>by
  simp only [Ł,iD] at h;split at h
  ·rename_i i l hi u;simp only [ą] at h;subst h;obtain ⟨info,d,z,y,E,F,M,D,-⟩:=aN (hT _ _ hi);have:=qm hT r l u w;simp only [bind_pure_comp] at this;simp [List.mapM_cons,aT y,this,D]
  ·cases h
def gi {i:TI}{z:un}(h:i.zero=z.cells.toList.map C.ofConst):(i.zero.map (C.den β)).toArray=z.cells/\i.zero.flatMap C.ids=[]:=by rw [h];exact ⟨by rw [KP],H3 _⟩
def Ik {u:zA (Nat×SV)}(h:∀p∈u.flatMap (λx=>x.2.ie),p):∀x∈u,∀v:C,v∈x.2.cells->∀p∈ie v,p:=
 λx a v b p c=>h p (ė.2 ⟨x,a,ė.2 ⟨v,b,c⟩⟩)
def parts_eq {parts:Array (Nat×Operand)}{u:zA (Nat×SV)}(h:(parts.toList.map λx=>(x.1,a.eval x.2))=(u.map λx=>(x.1,x.2.den β))):(parts.map λx=>(x.1,a.eval x.2)).toList=u.map λx=>(x.1,x.2.den β):=by rw [Qf3];exact h
def Hy (hT:eA.ok P T)(F:à n V0 bQ β0 st β a w V){t:TypeId}{i:TI}(hi:pI P t=some i){fs:zA (TypeId×Nat)}(E:i.k=.struct fs){parts:Array (Nat×Operand)}{D:zA (Nat×SV)}(M:ù st.bN parts.toList=some D){pl:zA (Nat×Nat)}(hpl:iD T fs=some pl){cs:zA C}(N:uk (λj=>pl[j]?) i.zero D=some cs)(hsc:∀p∈D.flatMap (λx=>x.2.ie),p):(Instr.build t (parts.map λx=>(x.1,a.eval x.2))).run P w=.ok (SV.den β (.agg cs)) w/\Ē st (.agg cs):=by have ⟨info,d,z,b,c,e,g,A,B,l⟩:=aN hi;have ⟨m,o⟩:=mV F _ _ M;rw [g] at E;obtain ⟨gs,rfl,rfl⟩:=lO E;have ⟨q,r⟩:=gi (β:=β) l;have ⟨f1,f2⟩:=tv (β:=β) _ _ _ N (Ik hsc);have hm:=qm hT gs.toList pl hpl w;refine ⟨?_,?_⟩;{have u:(gs.mapM λf:Field=>do pure (f.offset,<-sizeOf f.type)).run P w=.ok pl.toArray w:=by{grind [Array.mapM_eq_mapM_toList,Sem.run_map,Result.andThen_ok]};simp only [Instr.build,Sem.run_bind,lr b e,Result.andThen_ok,ai c,u];rw [parts_eq m,<-q];have:(λj:Nat=>pl.toArray[j]?)=λj:Nat=>pl[j]?:=by{funext j;simp};rw [this,f1];rfl};intro s v;rcases f2 s v with h|⟨x,y,h⟩;{rw [r] at h;cases h};exact o x y s h
def JN (hT:eA.ok P T)(hM:à n V0 bQ β0 st β a w V){t:TypeId}{i:TI}(hi:pI P t=some i){m:Nat}{e:TypeId}(Z:i.k=.arr m e){parts:Array (Nat×Operand)}{N:zA (Nat×SV)}(hp:ù st.bN parts.toList=some N){O:TI}(he:aH T e=some O){cs:zA C}(hf:uk (λj=>some (j*O.size,O.size)) i.zero N=some cs)(hsc:∀p∈N.flatMap (λx=>x.2.ie),p):(Instr.build t (parts.map λx=>(x.1,a.eval x.2))).run P w=.ok (SV.den β (.agg cs)) w/\Ē st (.agg cs):=by have ⟨info,d,z,b,c,f,g,D,E,l⟩:=aN hi;have ⟨F,G,H,o,I,J,K,q,L,M⟩:=aN (hT _ _ he);have ⟨r,u⟩:=mV hM _ _ hp;rw [g] at Z;obtain rfl:=rA Z;have ⟨v,y⟩:=gi (β:=β) l;have ⟨f1,f2⟩:=tv (β:=β) _ _ _ hf (Ik hsc);refine ⟨?_,?_⟩;{simp only [Instr.build,Sem.run_bind,lr b f,Result.andThen_ok,ai c,aT o];rw [parts_eq r,<-v,<-q,f1];rfl};intro s A;rcases f2 s A with h|⟨x,B,h⟩;{rw [y] at h;cases h};exact u x B s h
def R0 {α:Type}[Inhabited α](u:zA α)(m:Nat):((List.range (m*u.length)).map λj=>u.toArray[j%u.length]!)=(List.replicate m u).flatten:=by
 induction m with
 | zero=>simp
 | succ m y=>
  rw [List.replicate_succ',List.flatten_append,<-y,Ŧ,List.range_add,œ];congr 1;simp only [List.flatten_cons,List.flatten_nil,ý,Wq2];apply Qg8;grind [List.getElem?_range,Nat.add_mul_mod_self_right,Nat.mod_eq_of_lt]
def Ym (m:Nat)(u:zA C):(rep m u).map (C.den β)=(List.replicate m (u.map (C.den β))).flatten:=by unfold rep;rw [List.map_flatten,Wy3]
def Yl {m:Nat}{u:zA C}(h:u.flatMap C.ids=[]):(rep m u).flatMap C.ids=[]:=by
 unfold rep
 induction m<;>grind
theorem pZ (m:Nat)(u:zA un):vE m u=(List.replicate m u).flatten:=by
 unfold vE;split
 ·rename_i z
  induction m<;>grind
 ·rfl
theorem xU {z:un}{m:Nat}(k:Nat)(u:k=m*z.cells.size):((Array.range k).map λj=>z.cells[j%z.cells.size]!)=((List.replicate m z.cells.toList).flatten).toArray:=by apply ņ;rw [Qf3,Array.toList_range];subst u;have:=R0 z.cells.toList m;simpa using this
def BK {z:un}{m:Nat}(u:m*z.cells.size=0):(List.replicate m z.cells.toList).flatten=[]:=by rcases Qp3.1 u with h|h;{subst h;rfl};{have:z.cells.toList=[]:=χ;rw [this];simp}
def U_:Array.range 0=#[]:=rfl
def BL (hT:eA.ok P T)(hM:à n V0 bQ β0 st β a w V){t:TypeId}{i:TI}(hi:pI P t=some i){e:TypeId}(hk:i.k=.slice e){len:Nat}{parts:Array (Nat×Operand)}{ps:zA (Nat×SV)}(hp:ù st.bN parts.toList=some ps){Z:TI}(he:aH T e=some Z)(hlen:len*Z.size<=16777216)(hzl:Z.zero.length=Z.size)(hz0:Z.size≠0){cs:zA C}(hf:uk (λj=>some (j*Z.size,Z.size)) (rep len Z.zero) ps=some cs)(hsc:∀p∈ps.flatMap (λx=>x.2.ie),p):(Instr.buildSlice t len (parts.map λx=>(x.1,a.eval x.2))).run P w=.ok (.slice (some ⟨w.heap.size,0,none⟩) len len) (w.alloc (a_.obj β ⟨.lit cs,e⟩))/\∀s∈cs.flatMap C.ids,∃b,st.boxes s=some b:=by have ⟨info,d,z,K,y,L,A,M,N,O⟩:=aN hi;obtain ⟨g,Q,l,r,R,B,S,o,U,D⟩:=aN (hT _ _ he);have ⟨u,E⟩:=mV hM _ _ hp;rw [A] at hk;obtain rfl:=bu hk;have ⟨v,F⟩:=gi (β:=β) D;have ⟨f1,f2⟩:=tv (β:=β) _ _ _ hf (Ik hsc);have f:l.cells.size=g.size:=by{rw [<-v];simp [hzl,o]};refine ⟨?_,?_⟩;{have c:((List.replicate len l.cells.toList).flatten).toArray=((rep len Z.zero).map (C.den β)).toArray:=by{rw [Ym,<-v]};have G:¬len*g.size>2^24:=by{rw [<-o];simpa using hlen};simp only [Instr.buildSlice,Sem.run_bind,ai y,Result.andThen_ok,aT r,Sem.run_ite,Ã G];by_cases q:len*g.size=0;{have H:=BK (z:=l) (m:=len) (by rw [f];exact q);rw [H] at c;simp only [q,Ï,Sem.run_pure,Result.andThen_ok,U_,Array.map_empty,<-c] at f1 ⊢;rw [parts_eq u,<-o];rw [f1];simp only [Sem.run_bind,newRow,run_newObj,Result.andThen_ok,Sem.run_pure];rfl};simp only [q,Ð,lr r B,Sem.run_pure,Result.andThen_ok];rw [xU (z:=l) (m:=len) (len*g.size) (by rw [f]),c,parts_eq u,<-o,f1];simp only [Sem.run_bind,newRow,run_newObj,Result.andThen_ok,Sem.run_pure];rfl};intro s I;rcases f2 s I with h|⟨x,J,h⟩;{rw [Yl F] at h;cases h};exact E x J s h
def Hk {x:Int}(u:0<=x)(y:x<9223372036854775808:=by omega):i64.wrap x=x:=by unfold IntKind.wrap IntKind.bits IntKind.signed;simp;omega
def EW (hT:eA.ok P T){t:TypeId}{i:TI}(hi:pI P t=some i){e:TypeId}(O:i.k=.slice e){M:TI}(he:aH T e=some M){k1 k2:IntKind}{l c:Int}(hb:M.bytes≠0)(hs:M.size≠0){N:zA un}(Z:mX M.zero=some N)(hzl:M.size=N.length)(c1:0<=l)(c2:l<=c)(c3:(M.bytes:Int)*c<=2^47):(Instr.makeSlice t (.int k1 l) (.int k2 c)).run P w=.ok (.slice (some ⟨w.heap.size,0,none⟩) l.toNat c.toNat) (w.alloc (a_.obj β ⟨.row (vE c.toNat N),e⟩)):=by obtain ⟨info,d,z,A,p,B,q,C,D,E⟩:=aN hi;have ⟨f,F,g,h,G,r,H,s,u,v⟩:=aN (hT _ _ he);rw [q] at O;obtain rfl:=bu O;have ⟨n,I⟩:=gi (β:=β) v;obtain ⟨d1,-⟩:=gR (β:=β) Z;have b:g.cells.size=f.size:=by{rw [<-n,d1];simp [<-hzl,s]};have o:c<=2^47:=by{have:1<=(M.bytes:Int):=ω;have:=Int.mul_le_mul_of_nonneg_right this (by omega:0<=c);omega};have x:i64.wrap c=c:=Hk ω;rw [u] at c3;have t1:(decide (c<0)||decide ((f.bytes:Int)*c>2^48))=false:=χ;have t2:decide (l<0)=false:=by{simp;omega};have t3:decide (l>c)=false:=by{simp;omega};have a:(List.replicate c.toNat g.cells.toList).flatten=vE c.toNat N:=by{rw [pZ,<-d1,<-n]};simp only [Instr.makeSlice,Sem.run_bind,ai p,Result.andThen_ok,nE h,asInt,asIntOf,Sem.run_pure,(Hk c1),x,t1,t2,t3,Bool.or_self,ő,Ð,run_askRoom,aT h,Sem.run_ite];by_cases j:c.toNat*f.size=0;{have y:=BK (z:=g) (m:=c.toNat) (by rw [b];exact j);rw [y] at a;simp only [j,Ï,Sem.run_bind,Sem.run_pure,Result.andThen_ok,U_,Array.map_empty,newRow,run_newObj,<-a];rfl};simp only [j,Ð,lr h r,Result.andThen_ok];rw [xU (z:=g) (m:=c.toNat) (c.toNat*f.size) (by rw [b]),a];simp only [Sem.run_bind,newRow,run_newObj,Result.andThen_ok,Sem.run_pure];rfl
def Kq {gs:Array Field}{f y off:Nat}(h:(gs.toList.map λf=>(f.type,f.offset))[f]?=some (y,off)):∃u,gs[f]?=some u/\u.type=y/\u.offset=off:=by rw [Qt7] at h;(cases z:gs.toList[f]? with|none=>{rw [z] at h;cases h}|some u=>grind)
def zI (hT:eA.ok P T){t:TypeId}{i:TI}(hi:pI P t=some i){fs:zA (TypeId×Nat)}(y:i.k=.struct fs){f D off:Nat}(E:fs[f]?=some (D,off)){fi:TI}(hfi:aH T D=some fi)(F:fi.size≠0)(ad:Addr):(Instr.fieldAt t (.pointer (some ad)) f).run P w=.ok (.pointer (some (ad.add off))) w:=by have ⟨info,d,z,h,b,j,c,l,m,n⟩:=aN hi;obtain ⟨a,fd,o,e,p,q,r,s,u,v⟩:=aN (hT _ _ hfi);rw [c] at y;obtain ⟨gs,rfl,rfl⟩:=lO y;obtain ⟨x,g,rfl,rfl⟩:=Kq E;simp only [Instr.fieldAt,Sem.run_bind,ai b,Result.andThen_ok,g,Instr.sureAddr,Sem.run_pure,fieldPlace,aT e];rw [Sem.run_ite,Ã ω];rfl
def K7 {t:TypeId}{i:TI}(hi:pI P t=some i)(cs:zA C)(off:Nat):(xR i.k=true->(part t (cs.map (C.den β)).toArray off).run P w=.ok (SV.den β (.agg ((cs.drop off).take i.size))) w)/\(∀c,xR i.k=false->cs[off]?=some c->(part t (cs.map (C.den β)).toArray off).run P w=.ok (c.den β) w):=by have ⟨info,d,z,f,b,h,e,j,l,m⟩:=aN hi;refine ⟨λa=>?_,λc a g=>?_⟩;{rw [e] at a;simp only [part,Sem.run_bind,jC b,Result.andThen_ok,a,Ï,aT f,Sem.run_pure,SV.den];grind [List.map_take,List.map_drop]};rw [e] at a;simp [part,jC b,a,g]
def QY (hT:eA.ok P T){t:TypeId}{i:TI}(hi:pI P t=some i){fs:zA (TypeId×Nat)}(u:i.k=.struct fs){f y off:Nat}(D:fs[f]?=some (y,off)){fi:TI}(hfi:aH T y=some fi){cs:zA C}:(xR fi.k=true->(Instr.field t (SV.den β (.agg cs)) f).run P w=.ok (SV.den β (.agg ((cs.drop off).take fi.size))) w)/\(∀c,xR fi.k=false->cs[off]?=some c->(Instr.field t (SV.den β (.agg cs)) f).run P w=.ok (c.den β) w):=by have ⟨info,d,z,n,g,o,j,p,q,s⟩:=aN hi;rw [j] at u;obtain ⟨gs,rfl,rfl⟩:=lO u;obtain ⟨b,l,rfl,rfl⟩:=Kq D;have e:=K7 (w:=w) (β:=β) (hT _ _ hfi) cs b.offset;have a:∀r,(part b.type (cs.map (C.den β)).toArray b.offset).run P w=r->(Instr.field t (SV.den β (.agg cs)) f).run P w=r:=by{intro r a;simp only [Instr.field,Sem.run_bind,ai g,Result.andThen_ok,l,asAgg,SV.den,Sem.run_pure,a]};exact ⟨λh=>a _ (e.1 h),λc h m=>a _ (e.2 c h m)⟩
def fO (k:IntKind)(x:Int):(asIntOf (.int k x)).run P w=.ok (k,x) w:=rfl
def Dg (hT:eA.ok P T){t:TypeId}{i:TI}(hi:pI P t=some i){x Z:SV}{sc:zA Prop}{v:SV}(h:jy T i x Z=.ret sc v)(hsc:∀p∈sc,p):(Instr.indexAt t (x.den β) (Z.den β)).run P w=.ok (v.den β) w/\∀s∈v.ids,s∈x.ids:=by have ⟨info,d,z,J,j,K,q,L,M,N⟩:=aN hi;unfold jy at h;split at h;{rename_i k m;split at h;{rename_i e l;rw [q] at l;obtain rfl:=bu l;split at h;{rename_i r he;have ⟨u,y,A,f,B,D,E,g,F,G⟩:=aN (hT _ _ he);split at h;{rename_i n len c;cases h;have H:=hsc (n.isSome=true) ψ;have b:=hsc (0<=m/\m<(len:Int)) ψ;obtain ⟨p,rfl⟩:=Qd9.1 H;refine ⟨?_,λs a=>a⟩;simp [Instr.indexAt,SV.den,C.den,fO,ai j,b,aT f,ae,g]};{rename_i s o len c;cases h;have b:=hsc (0<=m/\m<(len:Int)) ψ;refine ⟨?_,λs a=>by simpa [SV.ids,C.ids] using a⟩;simp [Instr.indexAt,SV.den,C.den,fO,ai j,b,aT f,g_,g]};{rename_i s len c;cases h;have b:=hsc (0<=m/\m<(len:Int)) ψ;have O:=hsc (len<=c) ψ;refine ⟨?_,λs a=>by simpa [SV.ids,C.ids] using a⟩;have I:mA (β s) c=some ⟨β s,0,none⟩:=by{unfold mA;rw [Ã ω]};simp [Instr.indexAt,SV.den,C.den,fO,ai j,b,aT f,g_,g,I]};cases h};cases h};{rename_i len e l;rw [q] at l;obtain rfl:=rA l;split at h;{rename_i r he;have ⟨u,y,A,f,B,D,E,g,F,G⟩:=aN (hT _ _ he);split at h;{rename_i s o;cases h;have b:=hsc (0<=m/\m<(len:Int)) ψ;refine ⟨?_,λs a=>by simpa [SV.ids,C.ids] using a⟩;simp [Instr.indexAt,Instr.sureAddr,SV.den,C.den,fO,ai j,b,aT f,g_,g]};{rename_i n;cases h;obtain ⟨p,rfl⟩:=Qd9.1 (hsc (n.isSome=true) ψ);refine ⟨?_,λs a=>a⟩;simp [Instr.indexAt,Instr.sureAddr,SV.den,C.den,fO,ai j,(hsc (0<=m/\m<(len:Int)) ψ),aT f,ae,g]};cases h};cases h};cases h};cases h
def QB {k:IntKind}{x:Int}{y:Nat}(code:BoundsCode)(h:0<=x/\x<=(y:Int)):(Instr.sliceBound (.int k x) y code).run P w=.ok x.toNat w:=by simp [Instr.sliceBound,fO,h]
def j9 {len c:Nat}{lo hi mx:Option SV}{sc:zA Prop}{l:Option Nat}{h m:Nat}(u:tH len c lo hi mx=some (sc,l,h,m))(hsc:∀p∈sc,p):(Instr.sliceBounds true len c (lo.map (SV.den β)) (hi.map (SV.den β)) (mx.map (SV.den β))).run P w=.ok (l.getD 0,h,m) w:=by
 unfold tH at u
 cases y:Yg c mx with
 | none=>rw [y] at u;cases u
 | some t=>
  obtain ⟨g,a⟩:=t;rw [y] at u;dsimp only at u
  cases z:U4 len a hi mx with
  | none=>rw [z] at u;cases u
  | some t=>
   obtain ⟨i,b⟩:=t;rw [z] at u;dsimp only at u
   cases D:qLow b lo with
   | none=>rw [D] at u;cases u
   | some t=>
    obtain ⟨j,f⟩:=t;rw [D] at u;simp only [ą,Š] at u;obtain ⟨rfl,rfl,rfl,rfl⟩:=u
    have hm:((mx=none/\a=c)\/∃k x,mx=some (.c (.v (.int k x)))/\a=x.toNat/\(0<=x/\x<=(c:Int))):=by unfold Yg at y;split at y;{simp only [ą,Š] at y;exact .inl ⟨rfl,y.2.symm⟩};{rename_i k x;simp only [ą,Š] at y;obtain ⟨rfl,rfl⟩:=y;exact .inr ⟨k,x,rfl,rfl,hsc _ ψ⟩};cases y
    have d:((hi=none/\mx=none/\b=len)\/∃k x,hi=some (.c (.v (.int k x)))/\b=x.toNat/\(0<=x/\x<=(a:Int))):=by unfold U4 at z;split at z;{rename_i k x;simp only [ą,Š] at z;obtain ⟨rfl,rfl⟩:=z;exact .inr ⟨k,x,rfl,rfl,hsc _ ψ⟩};{simp only [ą,Š] at z;exact .inl ⟨rfl,rfl,z.2.symm⟩};cases z
    have e:((lo=none/\f=none)\/∃k x,lo=some (.c (.v (.int k x)))/\f=some x.toNat/\(0<=x/\x<=(b:Int))):=by unfold qLow at D;split at D;{simp only [ą,Š] at D;exact .inl ⟨rfl,D.2.symm⟩};{rename_i k x;simp only [ą,Š] at D;obtain ⟨rfl,rfl⟩:=D;exact .inr ⟨k,x,rfl,rfl,hsc _ ψ⟩};cases D
    clear y z D hsc
    rcases hm with ⟨rfl,rfl⟩|⟨n,o,rfl,rfl,q⟩<;>rcases d with ⟨rfl,E,rfl⟩|⟨k2,F,rfl,rfl,M⟩<;>rcases e with ⟨rfl,rfl⟩|⟨N,O,rfl,rfl,Z⟩ <;>
     (try cases E) <;>
     simp only [Instr.sliceBounds,Option.map_none,Ww9,SV.den,C.den,Sem.run_bind,Sem.run_pure,Result.andThen_ok,Wq7,Qf8,Option.isSome_none,Option.isSome_some,Ï,ő,Ð] <;>
     (repeat (rw [QB _ ξ];simp only [Result.andThen_ok]))
def N0 (hT:eA.ok P T){t:TypeId}{i:TI}(hi:pI P t=some i){e:TypeId}(Z:i.k=.slice e){ei:TI}(he:aH T e=some ei){x:SV}{lo O mx:Option SV}{sc:zA Prop}{v:SV}(h:yN ei.size x lo O mx=.ret sc v)(hsc:∀p∈sc,p):(Instr.sliceAt t (x.den β) (lo.map (SV.den β)) (O.map (SV.den β)) (mx.map (SV.den β))).run P w=.ok (v.den β) w/\∀s∈v.ids,s∈x.ids:=by have ⟨info,d,z,y,j,A,u,B,D,E⟩:=aN hi;have ⟨F,G,H,n,I,J,K,r,L,M⟩:=aN (hT _ _ he);rw [u] at Z;obtain rfl:=bu Z;have a:∀p:OA,p.map (λx=>x.add 0)=p:=by{intro p;cases p<;>simp [Addr.add]};unfold yN at h;split at h;{rename_i N len c;split at h;{rename_i f q m b;cases h;have:=j9 (P:=P) (w:=w) (β:=β) b hsc;refine ⟨?_,λs g=>g⟩;simp only [Instr.sliceAt,Instr.slice,SV.den,C.den,Sem.run_bind,ai j,Result.andThen_ok,this,aT n,Sem.run_pure,Wq7,ť,Wk7,a,ite_self]};{rename_i f l q m b;cases h;have:=j9 (P:=P) (w:=w) (β:=β) b hsc;refine ⟨?_,λs g=>g⟩;simp only [Instr.sliceAt,Instr.slice,SV.den,C.den,Sem.run_bind,ai j,Result.andThen_ok,this,aT n,Sem.run_pure,Qf8,r];rfl};cases h};{rename_i s o len c;split at h;{rename_i f q m b;cases h;have:=j9 (P:=P) (w:=w) (β:=β) b hsc;refine ⟨?_,λs g=>by simpa [SV.ids,C.ids] using g⟩;simp only [Instr.sliceAt,Instr.slice,SV.den,C.den,Sem.run_bind,ai j,Result.andThen_ok,this,aT n,Sem.run_pure,Wq7,ť,Wk7,a,ite_self]};{rename_i f l q m b;cases h;have:=j9 (P:=P) (w:=w) (β:=β) b hsc;refine ⟨?_,λs g=>by simpa [SV.ids,C.ids] using g⟩;simp only [Instr.sliceAt,Instr.slice,SV.den,C.den,Sem.run_bind,ai j,Result.andThen_ok,this,aT n,Sem.run_pure,Qf8,r];congr 2;unfold qL;split<;>simp [g_]};cases h};{rename_i s len c;split at h;{split at h;{rename_i f q m b;cases h;have hm:m=c:=by{unfold tH at b;simp only [Yg] at b;grind};have:=j9 (P:=P) (w:=w) (β:=β) b hsc;refine ⟨?_,λs g=>by simpa [SV.ids,C.ids] using g⟩;simp only [Instr.sliceAt,Instr.slice,SV.den,C.den,Sem.run_bind,ai j,Result.andThen_ok,this,aT n,Sem.run_pure,Wq7,ť,Wk7,a,ite_self,hm]};cases h};cases h};cases h
theorem fL {s:Sem un}{v:un}{w':World}(h:s.run P w=.ok v w'):(do pure (Next.value (<-s)):Sem Next).run P w=.ok (.value v) w':=by simp [h]
def run_u {s:Sem Unit}{w':World}(h:s.run P w=.ok () w'):(do s;pure Next.skip:Sem Next).run P w=.ok .skip w':=by simp [h]
def yA {f:Int->Int->Int}{k:IntKind}{g:un->un->Sem un}(u:∀x y k',(g (.int k x) (.int k' y))=pure (.int k (f x y))):∀(r:zA SV)(x m:Int),Ĳ f k x r=some m ->((r.map (SV.den β)).foldlM g (.int k x)).run P w=.ok (.int k m) w
 | [],x,m,h=>by simp only [Ĳ,ą] at h;subst h;rfl
 | y::r,x,m,h=>by
  unfold Ĳ at h;split at h
  ·rename_i e;cases e
  ·rename_i k' b z e;simp only [Ň] at e;obtain ⟨rfl,rfl⟩:=e;split at h
   ·simp only [Ł,List.foldlM_cons,SV.den,C.den,u,pure_bind];exact yA u r _ m h
   ·cases h
  ·cases h
def Qh:∀{cs:zA C} {l:zA (OA×Nat×Nat)} {k:Nat},Qg cs=some l->k<l.length->cs[k]?=some (.v (.slice (l.getD k (none,0,0)).1 (l.getD k (none,0,0)).2.1 (l.getD k (none,0,0)).2.2))
 | [],l,k,h,u=>by cases h;cases u
 | c::r,l,k,h,u=>by
  unfold Qg at h;split at h
  ·cases ‹_=[]›
  ·rename_i p n d z e;cases e;split at h
   ·rename_i l' y;cases h
    cases k with
    | zero=>rfl
    | succ k=>simpa using Qh y (by simpa using u)
   ·cases h
  ·cases h
def zF {d:TypeDesc}(h:nM d=.str):d=.string:=by cases d<;>simp_all [nM]
def Iy {b:Builtin}{xs:zA SV}{t:TypeId}{ts:zA TypeId}{ty:TypeId}{cs:Array md}{i:TI}(hi:pI P t=some i){sc:zA Prop}{v:SV}(h:oF b i.k xs=.ret sc v):(builtin b (t::ts).toArray ty cs (xs.map (SV.den β)).toArray).run P w=.ok (.value (v.den β)) w/\v.ids=[]:=by have ⟨info,d,z,u,l,A,n,B,D,E⟩:=aN hi;unfold oF at h;split at h;{cases h};rename_i x r;split at h;{split at h;{rename_i e p m c j;rw [n] at j;obtain rfl:=bu j;cases h;refine ⟨?_,rfl⟩;simp [builtin,Builtin.len_,ai l,SV.den,C.den,goInt]};{rename_i e s o m c j;rw [n] at j;obtain rfl:=bu j;cases h;refine ⟨?_,rfl⟩;simp [builtin,Builtin.len_,ai l,SV.den,C.den,goInt]};{rename_i e s m c j;rw [n] at j;obtain rfl:=bu j;cases h;refine ⟨?_,rfl⟩;simp [builtin,Builtin.len_,ai l,SV.den,C.den,goInt]};{rename_i s j;rw [n] at j;obtain rfl:=zF j;cases h;refine ⟨?_,rfl⟩;simp [builtin,Builtin.len_,ai l,SV.den,C.den,goInt]};cases h};{split at h;{rename_i e p m c j;rw [n] at j;obtain rfl:=bu j;cases h;refine ⟨?_,rfl⟩;simp [builtin,Builtin.cap_,ai l,SV.den,C.den,goInt]};{rename_i e s o m c j;rw [n] at j;obtain rfl:=bu j;cases h;refine ⟨?_,rfl⟩;simp [builtin,Builtin.cap_,ai l,SV.den,C.den,goInt]};{rename_i e s m c j;rw [n] at j;obtain rfl:=bu j;cases h;refine ⟨?_,rfl⟩;simp [builtin,Builtin.cap_,ai l,SV.den,C.den,goInt]};cases h};{split at h;{rename_i k a;split at h;{rename_i m hm;cases h;refine ⟨?_,rfl⟩;have:=yA (P:=P) (w:=w) (β:=β) (f:=cN) (k:=k) (g:=Builtin.min2) (λx y q=>by simp [Builtin.min2,cN]) r a m hm;simp [builtin,Builtin.min_,SV.den,C.den] at this ⊢;rw [this];rfl};cases h};cases h};{split at h;{rename_i k a;split at h;{rename_i m hm;cases h;refine ⟨?_,rfl⟩;have:=yA (P:=P) (w:=w) (β:=β) (f:=cA) (k:=k) (g:=Builtin.max2) (λx y q=>by simp [Builtin.max2,cA]) r a m hm;simp [builtin,Builtin.max_,SV.den,C.den] at this ⊢;rw [this];rfl};cases h};cases h};cases h
def TA {x:md×zA C}{y:SV}(h:yr x=some y):kO β x=y.den β/\∀s∈y.ids,s∈x.2.flatMap C.ids:=by
 obtain ⟨b,cs⟩:=x
 cases b with
 | true=>simp only [yr,ą] at h;subst h;exact ⟨rfl,λs a=>a⟩
 | false=>
  match cs,h with
  | [],h=>simp [yr] at h
  | [c],h=>simp only [yr,ą] at h;subst h;exact ⟨rfl,λs a=>by simpa [SV.ids] using a⟩
  | _::_::_,h=>simp [yr] at h
def zP:∀(xs:zA SV)(ss:zA Nat),Dd xs=some ss->xs.map (SV.den β)=(ss.map λs=>Value.pointer (some ⟨β s,0,none⟩))/\∀s∈ss,∃x∈xs,s∈x.ids
 | [],ss,h=>by simp only [Dd,ą] at h;subst h;exact ⟨rfl,λs u=>by cases u⟩
 | x::r,ss,h=>by
  unfold Dd at h;split at h
  ·rename_i e;cases e
  ·rename_i s y e;simp only [Ň] at e;obtain ⟨rfl,rfl⟩:=e;split at h
   ·rename_i l b;simp only [ą] at h;subst h;have ⟨d,g⟩:=zP r l b;refine ⟨by simp [d,SV.den,C.den],λf a=>?_⟩;rcases í.1 a with rfl|a
    ·exact ⟨.c (.ptr f 0),ψ,by simp [SV.ids,C.ids]⟩
    grind
   ·cases h
  ·cases h
def C6 (u:à n V0 bQ β0 st β a w V){x:Option Operand}{v:Option SV}(h:Im st.bN x=some v):x.map a.eval=v.map (SV.den β):=by (cases x with|none=>{simp only [Im,ą] at h;subst h;rfl}|some o=>{simp only [Im] at h;grind [u.eval]})
def tB {x y:SV}(u:Ē st x)(h:∀s∈y.ids,s∈x.ids):Ē st y:=λs a=>u s (h s a)
theorem pP {bx:Nat->Option a_}{t:TypeId}{x:SV}:pO T bx t x=.fail\/∃sc s b,pO T bx t x=.As sc s b:=by
 unfold pO;split<;>(try split)<;>(try split)<;>(try split)<;>(try split)<;>(try split)<;>first|exact .inl rfl|exact .inr ⟨_,_,_,rfl⟩
def NY {bx:Nat->Option a_}{t:TypeId}{x:SV}{sc:zA Prop}{v:SV}(h:pO T bx t x=.ret sc v):False:=by grind [pP]
def Lf {bx:Nat->Option a_}{e:TypeId}{u:TI}{b x:SV}{sc:zA Prop}{v:SV}(h:c_ bx e u b x=.ret sc v):False:=by unfold c_ at h;grind
def RV (hT:eA.ok P T)(D:à n V0 bQ β0 st β a w V){o:Oper}{sc:zA Prop}{v:SV}(h:aU T st.bN st.boxes o.op=.ret sc v)(hsc:∀p∈sc,p):(execOp a.eval o).run P w=.ok (.value (v.den β)) w/\Ē st v:=by unfold aU at h;split at h;(case h_1 op x hop=>split at h;{rename_i y hy;cases h;refine ⟨?_,D.live hy⟩;simp only [execOp,hop,D.eval hy];rfl};{cases h});(case h_2 op x hop=>split at h;{rename_i y hy;cases h;refine ⟨?_,D.live hy⟩;simp only [execOp,hop,D.eval hy];rfl};{cases h});(case h_3 op c x y hop=>split at h;{rename_i hc;split at h;{rename_i z hz;cases h;refine ⟨?_,D.live hz⟩;simp [execOp,hop,D.eval hz,D.eval hc,SV.den,C.den,asBool]};cases h};{rename_i hc;split at h;{rename_i z hz;cases h;refine ⟨?_,D.live hz⟩;simp [execOp,hop,D.eval hz,D.eval hc,SV.den,C.den,asBool]};cases h};{cases h});(case h_4=>split at h<;>cases h);(case h_5=>split at h;{split at h<;>cases h};{cases h});(case h_6 op t parts hop=>split at h;{rename_i i ps hi hps;have hi:=hT _ _ hi;split at h;{rename_i fs N;split at h;{rename_i pl hpl;split at h;{rename_i cs hcs;cases h;have ⟨M,F⟩:=Hy hT D hi N hps hpl hcs hsc;refine ⟨?_,F⟩;simp only [execOp,hop];exact fL M};cases h};cases h};{rename_i m e N;split at h;{rename_i ei Ku;split at h;{rename_i cs hcs;cases h;have ⟨M,F⟩:=JN hT D hi N hps Ku hcs hsc;refine ⟨?_,F⟩;simp only [execOp,hop];exact fL M};cases h};cases h};cases h};{cases h});(case h_7=>split at h;{split at h;{split at h;{split at h;{split at h<;>cases h};cases h};cases h};cases h};{cases h});(case h_8 op t x hop=>split at h;{rename_i i y hi hy;have ⟨M,F⟩:=GY D (hT _ _ hi) h;refine ⟨?_,F⟩;simp only [execOp,hop,D.eval hy];exact fL M};{cases h});(case h_9=>split at h;{unfold jz at h;split at h;{split at h;{split at h;{split at h<;>cases h};{split at h<;>cases h};{split at h;{cases h};split at h<;>cases h};cases h};cases h};cases h};{cases h});(case h_10 op x hop=>split at h;{rename_i s o E;cases h;refine ⟨?_,D.live E⟩;simp [execOp,hop,D.eval E,SV.den,C.den]};{rename_i p E;cases h;obtain ⟨ad,rfl⟩:=Qd9.1 (hsc (p.isSome=true) ψ);refine ⟨?_,D.live E⟩;simp [execOp,hop,D.eval E,SV.den,C.den]};{cases h});(case h_11 op bop xt x y yt hop=>split at h;{rename_i p q hp hq;have key:(q=.v .nilIface->∃c,y=.const c)->Ix T bop xt p q=.ret sc v->(execOp a.eval o).run P w=.ok (.value (v.den β)) w/\Ē st v:=by{intro hc h;have ⟨M,F⟩:=U3 (P:=P) (w:=w) (β:=β) hT (ox:=x) (oy:=y) h hsc hc;refine ⟨?_,cG F⟩;simp only [execOp,hop,D.eval hp,D.eval hq];exact fL M};split at h;{split at h;{exact key (λ_=>⟨_,rfl⟩) h};cases h};rename_i hne;exact key (λe=>Å e hne) h};{cases h});(case h_12 op t x hop=>split at h;{rename_i E;cases h;refine ⟨?_,cG rfl⟩;simp [execOp,hop,D.eval E,SV.den,C.den,Op.unary]};{rename_i E;cases h;refine ⟨?_,cG rfl⟩;simp [execOp,hop,D.eval E,SV.den,C.den,Op.unary]};{rename_i b E;cases h;refine ⟨?_,cG rfl⟩;simp [execOp,hop,D.eval E,SV.den,C.den,Op.unary]};{cases h});(case h_13 op t x hop=>split at h;{rename_i k m E;cases h;refine ⟨?_,cG rfl⟩;simp [execOp,hop,D.eval E,SV.den,C.den,Op.unary,Op.intBits,ch]};{cases h});(case h_14 op t x hop=>split at h;{rename_i k m E;cases h;refine ⟨?_,cG rfl⟩;simp [execOp,hop,D.eval E,SV.den,C.den,Op.unary,Op.intArith]};{cases h});(case h_15 op src dst x hop=>split at h;{rename_i i0 i k m hi0 hi E;obtain ⟨Zm,d0,z0,g1,g2,-⟩:=aN (hT _ _ hi0);have ⟨info,d,z,M,F,h3,h4,h5,h6,h7⟩:=aN (hT _ _ hi);split at h;{rename_i k' N;rw [h4] at N;obtain rfl:=Kl N;cases h;refine ⟨?_,cG rfl⟩;simp only [execOp,hop,D.eval E];refine fL ?_;simp only [convert,Sem.run_bind,ai g2,ai F,Result.andThen_ok,SV.den,C.den];cases d0<;>rfl};cases h};{cases h});(case h_16 op f first caps hop=>split at h;{rename_i hf;split at h;{rename_i xs hxs;split at h;{rename_i ss hss;cases h;have ⟨M,F⟩:=iG D _ _ hxs;have ⟨h3,h4⟩:=zP (β:=β) _ _ hss;refine ⟨?_,λs O=>?_⟩;{have e1:first=#[]:=by{apply ņ;exact hf};have e2:caps.map a.eval=(ss.map λs=>Value.pointer (some ⟨β s,0,none⟩)).toArray:=by{apply ņ;rw [Qf3,M,h3]};simp [execOp,hop,Instr.makeFunc,e1,e2,SV.den,C.den]};have ⟨x,E,hs'⟩:=h4 s O;exact F x E s hs'};cases h};cases h};{rename_i x hf;split at h;{rename_i cs hc E;split at h;{rename_i vs hvs;cases h;have e1:first=#[x]:=by{apply ņ;exact hf};have e2:caps=#[]:=by{apply ņ;exact hc};have e3:=D.eval E;simp only [SV.den,F8 (β:=β) hvs] at e3;exact ⟨by simp [execOp,hop,Instr.makeFunc,e1,e2,e3,SV.den,C.den],λs O=>by simp [SV.ids,C.ids] at O⟩};cases h};cases h};{cases h});(case h_17=>split at h;{unfold GZ at h;split at h;{split at h;{split at h;{split at h;{split at h<;>cases h};cases h};cases h};cases h};cases h};{cases h});(case h_18 op t x lo hi mx hop=>split at h;{rename_i i xv l h' m hi' E hl hh hm;split at h;{rename_i e N;split at h;{rename_i ei Ku;have ⟨M,F⟩:=N0 (P:=P) (w:=w) (β:=β) hT (hT _ _ hi') N Ku h hsc;refine ⟨?_,tB (D.live E) F⟩;simp only [execOp,hop,D.eval E,C6 D hl,C6 D hh,C6 D hm];exact fL M};cases h};cases h};{cases h});(case h_19 op t x f hop=>split at h;{rename_i i xv hi E;have hi:=hT _ _ hi;split at h;{rename_i fs N;split at h;{rename_i ft off hf;split at h;{rename_i fi hfi;split at h;{cases h};rename_i O;have O:fi.size≠0:=λe=>O (beq_eq.2 e);split at h;{rename_i s o';cases h;have:=zI (w:=w) hT hi N hf hfi O ⟨β s,o',none⟩;rw [g_] at this;refine ⟨?_,tB (D.live E) (λs O=>by simpa [SV.ids,C.ids] using O)⟩;simp only [execOp,hop,D.eval E];exact fL this};{rename_i p;cases h;obtain ⟨ad,rfl⟩:=Qd9.1 (hsc (p.isSome=true) ψ);have:=zI (w:=w) hT hi N hf hfi O ad;refine ⟨?_,cG rfl⟩;simp only [execOp,hop,D.eval E];exact fL this};cases h};cases h};cases h};cases h};{cases h});(case h_20 op t x f hop=>split at h;{rename_i i cs hi E;have hi:=hT _ _ hi;split at h;{rename_i fs N;split at h;{rename_i ft off hf;split at h;{rename_i fi hfi;have ⟨g1,g2⟩:=QY (P:=P) (w:=w) (β:=β) hT hi N hf hfi (cs:=cs);have hagg:xR fi.k=true->Q.ret [] (.agg ((cs.drop off).take fi.size))=.ret sc v->(execOp a.eval o).run P w=.ok (.value (v.den β)) w/\Ē st v:=by{intro Z h;cases h;refine ⟨?_,tB (D.live E) λs O=>?_⟩;{simp only [execOp,hop,D.eval E];exact fL (g1 Z)};have ⟨c,hc,O⟩:=ė.1 O;exact wz (Qg5 (ţ hc)) O};split at h;{rename_i Z;exact hagg (by rw [Z];rfl) h};{rename_i Z;exact hagg (by rw [Z];rfl) h};rename_i hk1 hk2;have Z:xR fi.k=false:=by{(cases hik:fi.k<;>first|rfl|exact Å hik (hk1 _)|exact Å hik (hk2 _ _))};split at h;{rename_i c hc;cases h;refine ⟨?_,tB (D.live E) λs O=>?_⟩;{simp only [execOp,hop,D.eval E];exact fL (g2 c Z hc)};exact wz (Qb7 hc) O};cases h};cases h};cases h};cases h};{cases h});(case h_21 op t x ix hop=>split at h;{rename_i i xv iv hi E hix;have ⟨M,F⟩:=Dg (P:=P) (w:=w) (β:=β) hT (hT _ _ hi) h hsc;refine ⟨?_,tB (D.live E) F⟩;simp only [execOp,hop,D.eval E,D.eval hix];exact fL M};{cases h});(case h_22 op x j hop=>split at h;{rename_i xs E;split at h;{rename_i y hy;split at h;{rename_i z hz;cases h;have ⟨M,F⟩:=TA (β:=β) hz;refine ⟨?_,tB (D.live E) λs O=>ė.2 ⟨y,Qb7 hy,F s O⟩⟩;have:(xs.map (kO β))[j]?=some (v.den β):=by{rw [Qt7,hy];simp [M]};simp [execOp,hop,D.eval E,SV.den,Instr.extract,hy,M]};cases h};cases h};{cases h});(case h_23 op c hop=>split at h;{split at h;{split at h;{split at h;{split at h;{exact (Lf h).elim};cases h};cases h};cases h};cases h};{split at h;{exact (NY h).elim};cases h};{rename_i b hb hb2 hc;split at h;{rename_i xs t ts hxs hts;split at h;{rename_i i hi;have ⟨M,F⟩:=iG D _ _ hxs;have e1:c.argTypes=(t::ts).toArray:=by{apply ņ;exact hts};have e2:c.args.map a.eval=(xs.map (SV.den β)).toArray:=by{apply ņ;rw [Qf3];exact M};have ⟨k1,k2⟩:=Iy (P:=P) (w:=w) (β:=β) (ts:=ts) (ty:=o.type) (cs:=c.args.map λ|.const _=>true|_=>false) (hT _ _ hi) h;refine ⟨?_,cG k2⟩;simp only [execOp,hop,resolve,hc,pure_bind,invoke,e1,e2];exact k1};cases h};cases h};{cases h});(case h_24 op t x ix hop=>split at h;{rename_i i s k m hi E hix;split at h;{rename_i N;have ⟨info,d,z,M,F,h3,h4,h5,h6,h7⟩:=aN (hT _ _ hi);rw [h4] at N;obtain rfl:=zF N;cases h;have hb:=hsc _ (ú.2 rfl);refine ⟨?_,cG rfl⟩;have hlt:m.toNat<s.size:=ω;have e:s.data.toList.getD m.toNat 0=s[m.toNat]'hlt:=by{have:s.data.toList[m.toNat]?=some (s[m.toNat]'hlt):=by{rw [Array.getElem?_toList];exact Array.getElem?_eq_getElem (by simpa using hlt)};rw [ě,this];rfl};simp only [execOp,hop,D.eval E,D.eval hix,SV.den,C.den];grind [fL,run_index_string]};cases h};{rename_i i cs k m hi E hix;unfold oG at h;split at h;{rename_i n e N;split at h;{rename_i ei l Ku hl;split at h;{rename_i e2 hek;split at h;{rename_i hb;rw [Đ] at hb;cases h;have hm:=hsc _ (ú.2 rfl);have ⟨info,d,z,M,F,h3,h4,h5,h6,h7⟩:=aN (hT _ _ hi);rw [h4] at N;obtain rfl:=rA N;have ⟨jY,ed,ez,e1,e2,e3,e4,e5,e6,e7⟩:=aN (hT _ _ Ku);refine ⟨?_,cG rfl⟩;have b2:=beq_eq.1 hb.2;simp only [execOp,hop,D.eval E,D.eval hix];refine fL ?_;have es:m.toNat*jY.size=m.toNat:=by{rw [<-e5,(beq_eq.1 hb.1),Ġ]};simp only [Instr.index,SV.den,C.den,fO,Sem.run_bind,Result.andThen_ok,ai F,Sem.run_ite,Ä hm,aT e1,es];exact ((K7 (w:=w) (β:=β) (hT _ _ Ku) cs m.toNat).2 _ (by rw [hek];rfl) (Qh hl (show m.toNat<l.length by omega)))};cases h};cases h};cases h};cases h};{cases h});(case h_25 op t x hop=>split at h;{rename_i i y hi E;have ⟨info,d,z,M,F,h3,h4,h5,h6,h7⟩:=aN (hT _ _ hi);unfold Df at h;split at h;{cases h};rename_i N;split at h;{rename_i lT htup;cases h;refine ⟨?_,cG rfl⟩;simp only [execOp,hop,D.eval E];refine fL ?_;have hd:∀ms,d≠.interface ms:=λms e=>by{rw [e] at h4;exact N h4};have e2:y.den β=y.den λ_=>0:=SV.cg λs O=>by{rw [lT] at O;cases O};show (Instr.makeInterface t (y.den β)).run P w=.ok (.iface t (y.den λ_=>0)) w;rw [e2];generalize y.den (λ_=>0)=u;simp only [Instr.makeInterface,Sem.run_bind,ai F,Result.andThen_ok];(cases d<;>first|rfl|exact Å rfl (hd _))};cases h};{cases h});(case h_26=>cases h)
def RU (hT:eA.ok P T)(D:à n V0 bQ β0 st β a w V){o:Oper}{sc:zA Prop}{b:a_}{x:Nat->SV}(h:aU T st.bN st.boxes o.op=.new sc b x)(hsc:∀p∈sc,p):∃v,(execOp a.eval o).run P w=.ok (.value v) (w.alloc (b.obj β))/\(∀d,v=(x d).den (cK β d w.heap.size)/\(x d).ids=[d])/\(∀s∈b.cs.ids,∃b',st.boxes s=some b'):=by have hx:∀d,SV.den (cK β d w.heap.size) (.c (.ptr d 0))=.pointer (some ⟨w.heap.size,0,none⟩):=λd=>by{simp [SV.den,C.den,bg]};have hy:∀d m c,SV.den (cK β d w.heap.size) (.c (.nG d 0 m c))=.slice (some ⟨w.heap.size,0,none⟩) m c:=λd m c=>by{simp [SV.den,C.den,bg]};unfold aU at h;split at h;(case h_1=>split at h<;>cases h);(case h_2=>split at h<;>cases h);(case h_3=>split at h<;>(try split at h)<;>cases h);(case h_4 op t hop=>split at h;{rename_i i hi;have ⟨info,d,z,O,h2,h3,h4,h5,h6,h7⟩:=aN (hT _ _ hi);simp only [Q.new.injEq] at h;obtain ⟨rfl,rfl,rfl⟩:=h;have ⟨z1,z2⟩:=gi (β:=β) h7;refine ⟨.pointer (some ⟨w.heap.size,0,none⟩),?_,λd=>⟨(hx d).symm,rfl⟩,λs u=>by rw [show ë.ids (.lit i.zero)=[] from z2] at u;cases u⟩;simp only [execOp,hop];refine fL ?_;simp only [Instr.alloc,Sem.run_bind,lr O h3,Result.andThen_ok,newVar,newRow,run_newObj,Sem.run_pure,a_.obj,ë.den,z1];rfl};{cases h});(case h_5 op t y hop=>split at h;{rename_i v hv;split at h;{cases h};rename_i hnt;simp only [Q.new.injEq] at h;obtain ⟨rfl,rfl,rfl⟩:=h;obtain ⟨c1,-⟩:=SV.yj (β:=β) hnt hsc;refine ⟨.pointer (some ⟨w.heap.size,0,none⟩),?_,λd=>⟨(hx d).symm,rfl⟩,λs u=>D.live hv s (SV.yk hnt u)⟩;simp only [execOp,hop,D.eval hv];refine fL ?_;simp only [Instr.box,newVar,newRow,Sem.run_bind,run_newObj,Result.andThen_ok,Sem.run_pure,c1,a_.obj,ë.den];rfl};{cases h});(case h_6=>split at h;{grind};{cases h});(case h_7 op t len parts hop=>split at h;{rename_i i ps hi hps;split at h;{rename_i e Z;split at h;{rename_i E Ku;split at h;{rename_i F;simp only [Đ,beq_eq,Qd5] at F;obtain ⟨⟨c1,c2⟩,M⟩:=F;have M:E.size≠0:=λe=>by{rw [e] at M;cases M};split at h;{rename_i cs hcs;simp only [Q.new.injEq] at h;obtain ⟨rfl,rfl,rfl⟩:=h;have ⟨O,h2⟩:=BL hT D (hT _ _ hi) Z hps Ku (Ş c1) c2 M hcs hsc;exact ⟨_,by simp only [execOp,hop];exact fL O,λd=>⟨(hy d _ _).symm,rfl⟩,h2⟩};cases h};cases h};cases h};cases h};{cases h});(case h_8=>split at h;{unfold mj at h;grind};{cases h});(case h_9=>split at h;{unfold jz at h;grind};{cases h});(case h_10=>split at h<;>cases h);(case h_11=>split at h;{have key:∀{op xt} {p q:C},Ix T op xt p q≠.new sc b x:=by{intro op xt p q h;have hi:∀k m m',rH op k m m'≠.new sc b x:=λk m m' h=>by{cases op<;>cases h};have hn:∀neg k,Iz neg k p q≠.new sc b x:=λneg k h=>by{unfold Iz at h;split at h<;>(try split at h)<;>(try split at h)<;>cases h};unfold Ix at h;grind};grind};{cases h});(case h_12=>split at h<;>cases h);(case h_13=>split at h<;>cases h);(case h_14=>split at h<;>cases h);(case h_15=>split at h;{split at h<;>cases h};{cases h});(case h_16=>split at h<;>(try split at h)<;>(try split at h)<;>cases h);(case h_17 op t l c hop=>split at h;{rename_i i lv cv hi hl F;unfold GZ at h;split at h;{rename_i e Z;split at h;{rename_i E Ku;split at h;{rename_i k1 m1 k2 m2;split at h;{rename_i zs hzs;split at h;{cases h};rename_i hcond;simp only [Qp4,beq_eq,Qd5,not_or] at hcond;obtain ⟨⟨g1,g2⟩,N⟩:=hcond;simp only [Q.new.injEq] at h;obtain ⟨rfl,rfl,rfl⟩:=h;have N:E.size=zs.length:=by{rcases hb:Nat.beq E.size zs.length with _|_;{rw [hb] at N;exact Å rfl N};exact beq_eq.1 hb};refine ⟨_,?_,λd=>⟨(hy d _ _).symm,rfl⟩,λs u=>by simp [ë.ids] at u⟩;simp only [execOp,hop,D.eval hl,D.eval F];exact fL (EW (P:=P) (w:=w) (β:=β) hT (hT _ _ hi) Z Ku (k1:=k1) (k2:=k2) (l:=m1) (c:=m2) g1 g2 hzs N (hsc _ ψ) (hsc _ ψ) (hsc _ ψ))};cases h};cases h};cases h};cases h};{cases h});(case h_18=>split at h;{split at h;{split at h;{unfold yN at h;split at h<;>(try split at h)<;>(try split at h)<;>cases h};cases h};cases h};{cases h});(case h_19=>split at h;{grind};{cases h});(case h_20=>split at h;{split at h<;>grind};{cases h});(case h_21=>split at h;{unfold jy at h;grind};{cases h});(case h_22=>split at h<;>(try split at h)<;>(try split at h)<;>cases h);(case h_23=>split at h;{split at h;{split at h;{split at h;{split at h;{unfold c_ at h;grind};cases h};cases h};cases h};cases h};{grind [pP]};{split at h;{split at h;{unfold oF at h;grind};cases h};cases h};{cases h});(case h_24=>split at h;{split at h<;>cases h};{unfold oG at h;grind};{cases h});(case h_25=>split at h;{unfold Df at h;split at h;{cases h};split at h<;>cases h};{cases h});(case h_26=>cases h)
def eU:Q->Nat
 | .fail=>0|.ret ..=>1|.new ..=>2|.As ..=>3|.rd ..=>4|.ur ..=>5|.app ..=>6|.yJ ..=>6
def vq {op:BinOp}{k:IntKind}{x y:Int}:eU (rH op k x y)<=1:=by cases op<;>exact Ú _
def LI {neg:md}{k:TK}{x y:C}:eU (Iz neg k x y)<=1:=by
 unfold Iz;split<;>(try split)<;>(try split)<;>first|exact Ú _|exact å _
def uv {i:TI}{cs:zA C}{k:Int}:eU (oG T i cs k)<=1:=by unfold oG;split;{split;{split;{(split<;>first|exact Ú _|exact å _)};exact å _};exact å _};exact å _
def xi {op:BinOp}{u:TypeId}{x y:C}:eU (Ix T op u x y)<=1:=by unfold Ix;split;{split;{split;{split;{exact vq};{exact vq};split;{exact vq};exact å _};exact å _};{split;{(split<;>first|exact Ú _|exact å _)};exact å _};split;{exact LI};{exact LI};exact å _};exact å _
def DH {sz:Nat}{x:SV}{lo hi mx:Option SV}:eU (yN sz x lo hi mx)<=1:=by
 unfold yN;split<;>(try split)<;>(try split)<;>first|exact Ú _|exact å _
def sF {i:TI}{x u:SV}:eU (jy T i x u)<=1:=by
 unfold jy;split<;>(try split)<;>(try split)<;>(try split)<;>first|exact Ú _|exact å _
def xj {b:Builtin}{k:TK}{xs:zA SV}:eU (oF b k xs)<=1:=by
 unfold oF;split<;>(try split)<;>(try split)<;>(try split)<;>first|exact Ú _|exact å _
def R9 {i:TI}{l c:SV}:eU (GZ T i l c)=0\/eU (GZ T i l c)=2:=by
 unfold GZ;split<;>(try split)<;>(try split)<;>(try split)<;>(try split)<;>first|exact .inl rfl|exact .inr rfl
theorem DI {bx:Nat->Option a_}{i:TI}{a x:SV}:eU (jz bx i a x)=0\/eU (jz bx i a x)=3:=by
 unfold jz;split<;>(try split)<;>(try split)<;>(try split)<;>(try split)<;>first|exact .inl rfl|exact .inr rfl
theorem Hg {bx:Nat->Option a_}{i:TI}{x:SV}:eU (mj bx i x)=0\/eU (mj bx i x)=1\/eU (mj bx i x)=4\/eU (mj bx i x)=5:=by
 unfold mj;split<;>(try split)<;>(try split)<;>(try split)<;>first|exact .inl rfl|exact .inr (.inl rfl)|exact .inr (.inr (.inl rfl))|exact .inr (.inr (.inr rfl))
def sE {bx:Nat->Option a_}{e:TypeId}{u:TI}{b x:SV}:eU (c_ bx e u b x)=0\/eU (c_ bx e u b x)=6:=by unfold c_;split;{exact .inl rfl};split;{exact .inl rfl};dsimp only;split;{exact .inl rfl};(split<;>(try split)<;>(try split)<;>first|exact .inl rfl|exact .inr rfl)
theorem DG {bx:Nat->Option a_}{t:TypeId}{x:SV}:eU (pO T bx t x)=0\/eU (pO T bx t x)=3:=by
 rcases pP (T:=T) (bx:=bx) (t:=t) (x:=x) with e|⟨_,_,_,e⟩<;>rw [e]<;>first|exact .inl rfl|exact .inr rfl
def iH {ρ:Operand->Option SV}{bx:Nat->Option a_}{op:Op}:(eU (aU T ρ bx op)=3->((∃t a x,op=.store t a x)\/∃c,op=.call c/\c.callee=.builtin .clear))/\(eU (aU T ρ bx op)=4\/eU (aU T ρ bx op)=5->∃t a,op=.load t a)/\(eU (aU T ρ bx op)=6->∃c,op=.call c/\c.callee=.builtin .append):=by
 have u:∀{q:Q},eU q<=1->(eU q=3->((∃t a x,op=.store t a x)\/∃c,op=.call c/\c.callee=.builtin .clear))/\(eU q=4\/eU q=5->∃t a,op=.load t a)/\(eU q=6->∃c,op=.call c/\c.callee=.builtin .append):=χ
 have y:∀{q:Q},eU q=0\/eU q=2->(eU q=3->((∃t a x,op=.store t a x)\/∃c,op=.call c/\c.callee=.builtin .clear))/\(eU q=4\/eU q=5->∃t a,op=.load t a)/\(eU q=6->∃c,op=.call c/\c.callee=.builtin .append):=by intro q h;exact ⟨ω,ω,ω⟩
 unfold aU;split
 case h_8=>
  split
  ·grind [Hg]
  ·exact u (å _)
 case h_9=>
  split
  ·grind [DI]
  ·exact u (å _)
 case h_11=>
  split
  ·split;{split;{exact u xi};exact u (å _)};exact u xi
  ·exact u (å _)
 case h_17=>
  split
  ·exact y R9
  ·exact u (å _)
 case h_18=>
  split
  ·split;{split;{exact u DH};exact u (å _)};exact u (å _)
  ·exact u (å _)
 case h_21=>
  split
  ·exact u sF
  ·exact u (å _)
 case h_23 c=>
  split
  ·rename_i D;refine ⟨λh=>?_,λh=>?_,λ_=>⟨c,rfl,D⟩⟩;{exfalso;(split at h<;>(try split at h)<;>(try split at h)<;>(try split at h)<;>first|(rcases sE (bx:=bx) with z|z<;>(rw [z] at h;cases h))|cases h)};exfalso;(split at h<;>(try split at h)<;>(try split at h)<;>(try split at h)<;>first|(rcases sE (bx:=bx) with z|z<;>(rw [z] at h;rcases h with h|h<;>cases h))|(rcases h with h|h<;>cases h))
  ·rename_i D;split;{grind [DG]};exact u (å _)
  ·split;{split;{exact u xj};exact u (å _)};exact u (å _)
  ·exact u (å _)
 case h_24=>
  split
  ·split;{exact u (Ú _)};exact u (å _)
  ·exact u uv
  ·exact u (å _)
 case h_25=>
  split
  ·unfold Df;split;{exact u (å _)};split;{exact u (Ú _)};exact u (å _)
  ·exact u (å _)
 all_goals
  first
  | exact u (å _)
  | ((repeat' split)<;>first|exact u (å _)|exact u (Ú _)|exact y (.inr rfl))
def NZ (hT:eA.ok P T)(hM:à n V0 bQ β0 st β a w V){t:TypeId}{x:SV}{sc:zA Prop}{s:Nat}{b:a_}(h:pO T st.boxes t x=.As sc s b)(hsc:∀p∈sc,p)(ty:TypeId)(cs:Array md):∃w',(builtin .clear #[t] ty cs #[x.den β]).run P w=.ok (.value (.tuple #[])) w'/\à n V0 bQ β0 (st.box s b) β a w' V:=by unfold pO at h;split at h;{rename_i i M;split at h;{rename_i e F;split at h;{rename_i r N;split at h;{rename_i q g o k c O;split at h;{rename_i j G H;split at h;{cases h};rename_i I;simp only [Q.As.injEq] at h;obtain ⟨rfl,rfl,rfl⟩:=h;simp only [Qp4,beq_eq,ŋ,not_or,Bool.not_eq_false,Į] at I;obtain ⟨⟨c1,J⟩,c3⟩:=I;have ⟨info,d,z,h1,K,h3,R,h5,h6,h7⟩:=aN (hT _ _ M);have ⟨S,ed,A,U,e2,W,e4,X,e6,Y⟩:=aN (hT _ _ N);rw [R] at F;obtain rfl:=bu F;have ⟨L,z2⟩:=gi (β:=β) Y;obtain ⟨d1,-⟩:=gR (β:=β) O;have Z:A.cells.size=S.size:=by{rw [<-L,d1];simp [<-X,J]};have a0:A.cells.toList=q:=by{rw [<-d1,<-L]};have hle:o+k*r.size<=j.length:=hsc _ ψ;have u:∀m,(vE m q).length=m*r.size:=λm=>by{rw [pZ,J];simp [Wx0]};have B:∀v∈vE k q,v.oneCell'=true:=λv D=>by{rw [pZ] at D;have ⟨l,hl,D⟩:=List.mem_flatten.1 D;grind};have f:=hM.row H dQ;have key:=run_storeCells_at (P:=P) (β g) o G (vE k q) 0 j.toArray w f (by simpa [u] using hle) B;simp only [ğ,u] at key;refine ⟨w.setRow (β g) (j.take o++vE k q++j.drop (o+k*r.size)).toArray,?_,hM.As H dQ (by intro s' E;simp [ë.ids] at E) (by rw [mr f];rfl) rfl rfl rfl⟩;have y:(Builtin.clear_ #[t] ty #[SV.den β (.c (.nG g o k c))]).run P w=.ok (.tuple #[]) (w.setRow (β g) (j.take o++vE k q++j.drop (o+k*r.size)).toArray):=by{(cases k with|zero=>{have e0:(j.take o++vE 0 q++j.drop (o+0*r.size)).toArray=j.toArray:=by{rw [pZ];simp};rw [e0,setRow_self w (β g) j.toArray G (0,0) f];simp [Builtin.clear_,ai K,SV.den,C.den]}|succ k=>{have ek:(Builtin.zeroCells A.cells (k+1)).toList=vE (k+1) q:=by{grind [Builtin.zeroCells,xU,pZ]};simp only [Ě] at key ⊢;simp [Builtin.clear_,ai K,SV.den,C.den,(lr U W w),ek,key]})};simp only [builtin];exact fL y};cases h};cases h};cases h};cases h};cases h
def RX (hT:eA.ok P T)(F:à n V0 bQ β0 st β a w V){o:Oper}{sc:zA Prop}{s:Nat}{b:a_}(h:aU T st.bN st.boxes o.op=.As sc s b)(hsc:∀p∈sc,p):∃M w',(execOp a.eval o).run P w=.ok M w'/\(M=.skip\/∃v,M=.value v)/\à n V0 bQ β0 (st.box s b) β a w' V:=by rcases (iH (T:=T) (ρ:=st.bN) (bx:=st.boxes) (op:=o.op)).1 (by rw [h];rfl) with ⟨t,y,x,d⟩|⟨c,d,k⟩;{rw [d] at h;simp only [aU] at h;split at h;{rename_i i C D l m e;have ⟨w',f,q⟩:=N5 F (hT _ _ l) (F.live e) h hsc;refine ⟨.skip,w',?_,.inl rfl,q⟩;simp only [execOp,d,F.eval m,F.eval e];exact run_u f};cases h};obtain ⟨E,args,r⟩:=c;dsimp only at k;subst k;rw [d] at h;simp only [aU] at h;split at h;{rename_i x t g j;obtain ⟨f,-⟩:=iG F _ _ g;have u:r=#[t]:=by{apply ņ;exact j};have z:args.map a.eval=#[x.den β]:=by{apply ņ;rw [Qf3];exact f};have ⟨w',A,B⟩:=NZ hT F h hsc o.type (args.map λ|.const _=>true|_=>false);refine ⟨.value (.tuple #[]),w',?_,.inr ⟨_,rfl⟩,B⟩;simp only [execOp,d,resolve,pure_bind,invoke,u,z];exact A};cases h
def U8 (hT:eA.ok P T)(u:à n V0 bQ β0 st β a w V){o:Oper}{p:OA}{sh:BB}(h:aU T st.bN st.boxes o.op=.rd p sh){x:SV}{k:Prop}(z:x.ids=[])(D:(∃c,x=.c c/\∃s',sh=.one s')\/∃cs l,x=.agg cs/\sh=.agg l/\cs.length=l.length)(E:V.Yj p x k):(execOp a.eval o).run P w=.ok (.value (x.den β)) w/\k:=by obtain ⟨t,y,b⟩:=(iH (T:=T) (ρ:=st.bN) (bx:=st.boxes) (op:=o.op)).2.1 (by rw [h];exact .inl rfl);rw [b] at h;simp only [aU] at h;split at h;{rename_i i m d e;unfold mj at h;split at h;{grind};{split at h;{rename_i f;simp only [Q.rd.injEq] at h;obtain ⟨rfl,rfl⟩:=h;have ⟨g,j⟩:=rd_run u (hT _ _ d) (beq_eq.1 f) z D E;refine ⟨?_,j⟩;simp only [execOp,b,u.eval e];exact fL g};cases h};cases h};cases h
def Lg (hT:eA.ok P T)(u:à n V0 bQ β0 st β a w V){o:Oper}{vs:zA un}{of size:Nat}{sh:BB}(h:aU T st.bN st.boxes o.op=.ur vs of size sh){x:SV}(z:x.ids=[])(D:(∃c,x=.c c/\∃s',sh=.one s')\/∃cs l,x=.agg cs/\sh=.agg l/\cs.length=l.length)(E:Ys vs of size x):(execOp a.eval o).run P w=.ok (.value (x.den β)) w:=by obtain ⟨t,y,b⟩:=(iH (T:=T) (ρ:=st.bN) (bx:=st.boxes) (op:=o.op)).2.1 (by rw [h];exact .inr rfl);rw [b] at h;simp only [aU] at h;split at h;{rename_i i m f g;unfold mj at h;split at h;{split at h;{grind};{rename_i d;simp only [Q.ur.injEq] at h;obtain ⟨rfl,rfl,rfl,rfl⟩:=h;have j:=G1 u (hT _ _ f) (.inl d) z D E;simp only [execOp,b,u.eval g];exact fL j};{rename_i d;split at h;{cases h};rename_i k;simp only [Q.ur.injEq] at h;obtain ⟨rfl,rfl,rfl,rfl⟩:=h;simp only [execOp,b,u.eval g];exact fL (G1 u (hT _ _ f) (.inr ⟨d,λe=>k (by rw [e];rfl)⟩) z D E)};cases h};{split at h<;>cases h};cases h};cases h
end
end Go.Eng
