import Derived.Test.YtmamnfmhdcahmaaGreatDoorW1
set_option linter.all false
open Go.IntKind (i64 u64 u32)
namespace Go.Eng
section
variable {P:Program} {T:dW} {n:Nat} {V0:Ó} {bQ:Mw} {β0:Nat->Nat} {st:St} {β:Nat->Nat} {a:Act} {w:World} {V:Ó}
theorem gN (b o k:Nat):(⟨b,o,none⟩:Addr).add k=⟨b,o+k,none⟩:=by unfold Addr.add;split;{rename_i h;subst h;rfl};{rfl}
theorem cell_of_row {g o:Nat}{vs:zA um}{ty}(h:w.heap[g]?=some (.cells vs.toArray ty (0,0))):w.cell? ⟨g,o,none⟩=vs[o]?:=by simp [World.cell?,h]
theorem KH {g o m:Nat}{vs:zA um}{ty t info d}(h:w.heap[g]?=some (.cells vs.toArray ty (0,0)))(u:P.info? t=some info)(y:P.underlying t=some d)(hm:info.size=m)(z:xH (nE d)=true)(E:o+m<=vs.length):(loadVar t ⟨g,o,none⟩).run P w=.ok (.agg ((vs.drop o).take m).toArray) w:=by
 subst hm
 have key:=run_loadCells_list (P:=P) (w:=w) ⟨g,o,none⟩ ((vs.drop o).take info.size) (by
  intro j v a;rw [gN,cell_of_row h];rw [ĩ] at a;split at a
  ·rw [Qn5] at a;exact a
  ·cases a)
 rw [ê,Į,ğ ω] at key;simp only [loadVar,Sem.run_bind,jx y,Result.andThen_ok,z,Ï,aS u,key,Sem.run_pure]
def Gp {g o:Nat}{vs:zA um}{ty t:TypeId}{d:TypeDesc}{v:um}(h:w.heap[g]?=some (.cells vs.toArray ty (0,0)))(u:P.underlying t=some d)(y:xH (nE d)=false)(z:vs[o]?=some v):(loadVar t ⟨g,o,none⟩).run P w=.ok v w:=by simp only [loadVar,Sem.run_bind,jx u,Result.andThen_ok,y,Ŏ,Ð,run_load,cell_of_row h,z]
def Þ.row (u:Þ n V0 bQ β0 st β a w V){s:Nat}{b:aY}(y:st.boxes s=some b)(lb:b.live):w.heap[β s]?=some (.cells (b.cs.den β).toArray b.ty (0,0)):=u.boxes s b y lb
def vY {cs:zA C}{c:C}{s:Nat}(u:c∈cs)(y:s∈c.ids):s∈cs.flatMap C.ids:=ċ.2 ⟨c,u,y⟩
def Gy (F:Þ n V0 bQ β0 st β a w V){t:TypeId}{i:TI}(hi:pN P t=some i){x:SV}{sc:zA Prop}{v:SV}(h:lS st.boxes i x=.ret sc v):(Instr.loadAt t (x.den β)).run P w=.ok (v.den β) w/\ď st v:=by
 obtain ⟨info,d,z,B,y,D,A,E,-⟩:=aM hi;unfold lS at h;split at h
 ·rename_i b o;split at h
  ·rename_i cs ty r;have f:=F.row r dI;have e:=F.Eg b _ r;simp only [è.den] at f
   have g:xH i.k=true->(if Nat.ble (o+i.size) cs.length then Q.ret [] (.agg ((cs.drop o).take i.size)) else .fail)=.ret sc v ->
     (Instr.loadAt t (SV.den β (.c (.ptr b o)))).run P w=.ok (v.den β) w/\ď st v:=by
    intro j h;split at h
    ·rename_i u;have u:=ő u;simp only [Q.ret.injEq] at h;obtain ⟨-,rfl⟩:=h;refine ⟨?_,?_⟩;{grind [KH,Instr.loadAt,Instr.sureAddr,SV.den,C.den,List.map_take,List.map_drop]};{intro s l;have ⟨c,m,l⟩:=ċ.1 l;exact e s (vY (Qg4 (Qn4 m)) l)}
    ·cases h
   split at h
   ·rename_i j;exact g (by rw [j];rfl) h
   ·rename_i j;exact g (by rw [j];rfl) h
   ·rename_i p q;have j:xH i.k=false:=by{(cases hik:i.k<;>first|rfl|exact Å hik (p _)|exact Å hik (q _ _))};split at h;{rename_i c m;simp only [Q.ret.injEq] at h;obtain ⟨-,rfl⟩:=h;refine ⟨?_,?_⟩;{have:=Gp (t:=t) (o:=o) (v:=c.den β) f y (A▸j) (by simp [m]);grind [Instr.loadAt,Instr.sureAddr,SV.den,C.den]};{intro s l;exact e s (vY (ı m) l)}};{cases h}
  ·cases h
  ·split at h<;>cases h
  ·cases h
 ·split at h<;>cases h
 ·cases h
def Eb.fg:∀(s:Eb) {K:C->Prop},s.ex K->∃c,c.ids=[]/\K c
 | .int _,_,⟨_,h⟩=>⟨_,rfl,h⟩
 | .bool,_,⟨_,h⟩=>⟨_,rfl,h⟩
 | .slice,_,⟨_,_,_,h⟩=>⟨_,rfl,h⟩
 | .ptr,_,⟨_,h⟩=>⟨_,rfl,h⟩
 | .str,_,⟨_,h⟩=>⟨_,rfl,h⟩
 | .any,_,⟨_,h⟩=>⟨_,rfl,h⟩
def vX:∀(l:zA Eb) {K:zA C->Prop},exL l K->∃cs,cs.flatMap C.ids=[]/\cs.length=l.length/\K cs
 | [],_,h=>⟨[],rfl,rfl,h⟩
 | s::r,K,h=>by
  have ⟨c,y,u⟩:=Eb.fg s h;have ⟨cs,a,b,d⟩:=vX r u;grind
def Bv.fg:∀(s:Bv) {K:SV->Prop},s.ex K->∃x,x.ids=[]/\((∃c,x=.c c/\∃s',s=.one s')\/∃cs l,x=.agg cs/\s=.agg l/\cs.length=l.length)/\K x
 | .one s,K,h=>by have ⟨c,y,u⟩:=Eb.fg s h;exact ⟨.c c,y,.inl ⟨c,rfl,s,rfl⟩,u⟩
 | .agg l,K,h=>by have ⟨cs,a,b,u⟩:=vX l h;exact ⟨.agg cs,a,.inr ⟨cs,l,rfl,rfl,b⟩,u⟩
def Cf:∀(l:zA Bv) {K:zA (ut×zA C)->Prop},exT l K->∃xs,(xs.flatMap λx=>x.2.flatMap C.ids)=[]/\K xs
 | [],_,h=>⟨[],rfl,h⟩
 | .one s::r,K,h=>by
  have ⟨c,y,u⟩:=Eb.fg s h;have ⟨xs,a,b⟩:=Cf r u;grind
 | .agg l::r,K,h=>by
  obtain ⟨cs,y,-,u⟩:=vX l h;have ⟨xs,a,b⟩:=Cf r u;grind
def Sh.fg:∀(s:Sh) {K:SV->Prop},s.ex K->∃x,x.ids=[]/\K x
 | .val s,K,h=>by obtain ⟨x,u,-,y⟩:=Bv.fg s h;exact ⟨x,u,y⟩
 | .xD l,K,h=>by have ⟨xs,u,y⟩:=Cf l h;exact ⟨.xD xs,u,y⟩
 | .none,K,h=>⟨.xD [],rfl,h⟩
theorem kH {x:SV}(h:x.ids=[])(β β'):x.den β=x.den β':=SV.bW λs a=>by rw [h] at a;cases a
def cw {x:SV}(h:x.ids=[]):ď st x:=λs a=>by rw [h] at a;cases a
def K8:∀(cs:zA C) (p:Addr) (i:Nat) {k:Prop},V.Yl p i cs k->(∀j c,cs[j]?=some c->V.at (p.add (i+j)) (c.den λ_=>0))/\k
 | [],_,_,_,h=>⟨λj c u=>by simp at u,h⟩
 | c::r,p,i,k,⟨z,y⟩=>by
  have ⟨E,F⟩:=K8 r p (i+1) y;grind
def Þ.atV (u:Þ n V0 bQ β0 st β a w V){p v}(h:V.at p v):w.cell? p=some v:=by obtain ⟨d,b⟩:=h;unfold World.cell? at b ⊢;split at b;{rename_i c e f g;rw [(u.tJ p.block _ ⟨d,g⟩).1];exact b};{cases b}
def PY {i:TI}{l:zA Eb}(h:oK i=.agg l):xH i.k=true/\l.length=i.zero.length:=by unfold oK at h;split at h;{rename_i a;simp only [Bv.agg.injEq] at h;subst h;exact ⟨by rw [a];rfl,ψ⟩};{rename_i a;simp only [Bv.agg.injEq] at h;subst h;exact ⟨by rw [a];rfl,ψ⟩};{split at h<;>cases h}
def PZ {i:TI}{s:Eb}(h:oK i=.one s):xH i.k=false:=by unfold oK at h;split at h;{cases h};{cases h};{rename_i a b;(cases hik:i.k<;>first|rfl|exact Å hik (a _)|exact Å hik (b _ _))}
def rd_run (O:Þ n V0 bQ β0 st β a w V){t:TypeId}{i:TI}(hi:pN P t=some i)(hz:i.zero.length=i.size){p:OA}{x:SV}{k:Prop}(Z:x.ids=[])(M:(∃c,x=.c c/\∃s',oK i=.one s')\/∃cs l,x=.agg cs/\oK i=.agg l/\cs.length=l.length)(h:V.Yk p x k):(Instr.loadAt t (.pointer p)).run P w=.ok (x.den β) w/\k:=by
 obtain ⟨info,d,z,r,o,F,q,u,-⟩:=aM hi;rcases M with ⟨c,rfl,s,M⟩|⟨cs,l,rfl,M,y⟩
 ·obtain ⟨⟨f,rfl,g⟩,A⟩:=h;have b:=PZ M;rw [q] at b;refine ⟨?_,A⟩;simp only [Instr.loadAt,Instr.sureAddr,Sem.run_bind,Sem.run_pure,Result.andThen_ok,loadVar,jx o,b,Ŏ,Ð,run_load,O.atV g];rw [kH Z β λ_=>0];rfl
 ·obtain ⟨f,rfl,B⟩:=h;have ⟨b,m⟩:=PY M;rw [q] at b;have ⟨D,E⟩:=K8 cs f 0 B;refine ⟨?_,E⟩
  have key:=run_loadCells_list (P:=P) (w:=w) f (cs.map (C.den λ_=>0)) (by
   intro j v e;rw [Wz5] at e
   cases N:cs[j]? with
   | none=>rw [N] at e;cases e
   | some c=>
    rw [N] at e;simp only [Wj0,ā] at e;subst e;have:=O.atV (D j c N);simpa using this)
  rw [ē,y,m,hz,u] at key;simp only [Instr.loadAt,Instr.sureAddr,Sem.run_bind,Sem.run_pure,Result.andThen_ok,loadVar,jx o,b,Ï,aS r,key];rw [kH Z β λ_=>0];rfl
def GA (M:Þ n V0 bQ β0 st β a w V){t:TypeId}{i:TI}(hi:pN P t=some i){b o:Nat}{vs:zA um}{ty:TypeId}(F:st.boxes b=some ⟨.row vs,ty⟩\/(st.boxes b=some ⟨.aG vs,ty⟩/\i.size≠0)){x:SV}(N:x.ids=[])(E:(∃c,x=.c c/\∃s',oK i=.one s')\/∃cs l,x=.agg cs/\oK i=.agg l/\cs.length=l.length)(h:Yu vs o i.size x):(Instr.loadAt t (SV.den β (.c (.ptr b o)))).run P w=.ok (x.den β) w:=by obtain ⟨info,d,z,p,j,A,k,q,-⟩:=aM hi;have g:w.heap[β b]?=some (.cells vs.toArray ty (0,0)):=by{rcases F with F|⟨F,B⟩;{exact M.row F dJ};{refine M.row F (f_ λe=>?_);subst e;rcases E with ⟨c,rfl,s,E⟩|⟨cs,l,rfl,E,r⟩;{simp [Yu] at h};{have:=h.1;simp at this;omega}}};rcases E with ⟨c,rfl,s,E⟩|⟨cs,l,rfl,E,r⟩;{have f:=PZ E;rw [k] at f;have:=Gp (t:=t) (o:=o) g j f h;rw [show SV.den β (.c c)=C.den (λ_=>0) c from kH (x:=.c c) N β _];show (Instr.loadAt t (.pointer (some ⟨β b,o,none⟩))).run P w=_;grind [Instr.loadAt,Instr.sureAddr]};{have ⟨f,u⟩:=PY E;rw [k] at f;obtain ⟨v,y⟩:=h;have:=KH (t:=t) (o:=o) (m:=i.size) g p j q.symm f v;simp only [Instr.loadAt,Instr.sureAddr,C.den,SV.den,Sem.run_bind,Sem.run_pure,Result.andThen_ok,this,y];have:=kH (x:=.agg cs) N β λ_=>0;grind [SV.den]}
def one_of {c:C}(h:∀p∈gT c,p):(c.den β).oneCell'=true:=by (cases c with|v x=>{(cases x<;>first|rfl|exact (h False (by simp [gT])).elim)}|w x=>{exact h (x.oneCell'=true) (by simp [gT])}|_=>rfl)
def QM {v:um}(h:v.oneCell'=true):v.cells=#[v]:=by cases v<;>first|rfl|simp [Value.oneCell'] at h
def SV.xT {x:SV}(u:x.Cs=false)(h:∀p∈x.gT,p):(x.den β).cells=(x.cells.map (C.den β)).toArray/\∀v∈x.cells.map (C.den β),v.oneCell'=true:=by have b:∀c∈x.cells,(c.den β).oneCell'=true:=λc a=>one_of λp d=>h p (ċ.2 ⟨c,a,d⟩);refine ⟨?_,λv e=>by obtain ⟨c,a,rfl⟩:=ù.1 e;exact b c a⟩;(cases x with|c c=>{exact QM (b c (by simp [SV.cells]))}|agg cs=>rfl|xD xs=>{cases u})
def lV {g:Nat}{old cs:Array um}{ty:TypeId}(h:w.heap[g]?=some (.cells old ty (0,0))):(w.setRow g cs).heap=w.heap.setIfInBounds g (.cells cs ty (0,0)):=by apply Array.ext_getElem?;grind [setRow_heap,setRow_other]
theorem gj {cs vs}(h:mT cs=some vs):cs.map (C.den β)=vs/\cs.flatMap C.ids=[]:=by
 induction cs generalizing vs with
 | nil=>simp [mT] at h;subst h;exact ⟨rfl,rfl⟩
 | cons c r u=>
  simp only [mT] at h;split at h
  ·rename_i v ws b a;simp only [ā] at h;subst h;have ⟨d,e⟩:=u a;have:c.den β=v/\c.ids=[]:=by{cases c<;>simp_all [C.val?,C.den,C.ids]};grind
  ·cases h
theorem wR {cs xs o}:(ă cs o xs).map (C.den β)=(cs.map (C.den β)).take o++xs.map (C.den β)++(cs.map (C.den β)).drop (o+xs.length):=by simp [ă,Wz9,Wk0]
def wQ {cs xs:zA C}{o s:Nat}(h:s∈(ă cs o xs).flatMap C.ids):s∈cs.flatMap C.ids\/s∈xs.flatMap C.ids:=by have ⟨c,a,b⟩:=ċ.1 h;simp only [ă,ú] at a;grind
def lY {vs xs:zA um}{o:Nat}(h:o+xs.length<=vs.length:=by omega):bw vs o xs=vs.take o++xs++vs.drop (o+xs.length):=by unfold bw;grind [List.set_eq_take_append_cons_drop]
def SV.xU {x:SV}{s:Nat}(u:x.Cs=false):s∈x.cells.flatMap C.ids->s∈x.ids:=by cases x<;>grind [SV.cells,SV.ids]
def NQ (hM:Þ n V0 bQ β0 st β a w V){t:TypeId}{i:TI}(hi:pN P t=some i){av xv:SV}(hx:ď st xv){sc:zA Prop}{s:Nat}{b:aY}(h:ju st.boxes i av xv=.Ao sc s b)(hsc:∀p∈sc,p):∃w',(Instr.storeAt t (av.den β) (xv.den β)).run P w=.ok () w'/\Þ n V0 bQ β0 (st.box s b) β a w' V:=by
 obtain ⟨info,d,z,U,Y,Z,h4,h5,-⟩:=aM hi;unfold ju at h;split at h
 ·rename_i g o;split at h
  ·rename_i k;simp only [Ċ,beq_eq,Qd4] at k;obtain ⟨hlen,y⟩:=k
   have core:∀(j:zA um)(ty:TypeId)(L:aY),w.heap[β g]?=some (.cells j.toArray ty (0,0))->(∀p∈xv.gT,p)->o+xv.cells.length<=j.length->L.ty=ty ->
     L.cs.den β=j.take o++xv.cells.map (C.den β)++j.drop (o+xv.cells.length) ->
     ∃w',(Instr.storeAt t (SV.den β (.c (.ptr g o))) (xv.den β)).run P w=.ok () w'/\w'.heap=w.heap.setIfInBounds (β g) (L.obj β)/\w'.os=w.os/\w'.tape=w.tape/\w'.output=w.output/\w.drawn<=w'.drawn:=by
    intro j ty L f A hle N B;have ⟨D,O⟩:=SV.xT (β:=β) y A;have key:=run_storeCells_at (P:=P) (β g) o ty (xv.cells.map (C.den β)) 0 j.toArray w f (by simpa using hle) O;refine ⟨w.setRow (β g) (j.take o++xv.cells.map (C.den β)++j.drop (o+xv.cells.length)).toArray,?_,?_⟩
    ·generalize xv.den β=v at D;show (Instr.storeAt t (.pointer (some ⟨β g,o,none⟩)) v).run P w=_;simp only [Instr.storeAt,Instr.sureAddr,Sem.run_bind,Sem.run_pure,Result.andThen_ok,storeVar,aS U,D];grind
    ·exact ⟨by rw [lV f,aY.obj,B,N],rfl,rfl,rfl,Ù _⟩
   split at h
   ·rename_i cs ty q;split at h;{rename_i W;simp only [Q.Ao.injEq] at h;obtain ⟨rfl,rfl,rfl⟩:=h;have f:=hM.row q dI;have ⟨w',E,F,G,H,I,J⟩:=core _ _ ⟨.lit (ă cs o xv.cells),ty⟩ f hsc (by simpa [è.den,hlen] using (ő W)) rfl (by simp only [è.den];exact wR);refine ⟨w',E,hM.Ao q dI ?_ F G H I J⟩;intro M l;rcases wQ l with R|R;{exact hM.Eg _ _ q M R};{exact hx M (SV.xU y R)}};{cases h}
   ·rename_i x ty q;split at h
    ·rename_i xs r;simp only [Q.Ao.injEq] at h;obtain ⟨rfl,rfl,rfl⟩:=h;have f:=hM.row q dJ;have ⟨m,S⟩:=gj (β:=β) r;have hle:o+i.size<=x.length:=hsc _ ψ;have u:xs.length=i.size:=by rw [<-m,ē,hlen]
     have ⟨w',E,F,G,H,I,J⟩:=core _ _ ⟨.row (bw x o xs),ty⟩ f (λp T=>hsc p (Ĩ _ T)) (by simpa [è.den,hlen] using hle) rfl (by
      simp only [è.den];rw [lY,m,hlen,u])
     exact ⟨w',E,hM.Ao q dJ (by intro M l;simp [è.ids] at l) F G H I J⟩
    ·cases h
   ·rename_i x ty q;split at h
    ·cases h
    rename_i X;split at h
    ·rename_i xs r;simp only [Q.Ao.injEq] at h;obtain ⟨rfl,rfl,rfl⟩:=h;have ⟨m,S⟩:=gj (β:=β) r;have hle:o+i.size<=x.length:=hsc _ ψ
     have K:aY.live ⟨.aG x,ty⟩:=f_ λe=>by subst e;simp at hle;exact X (by rw [hle.2];rfl)
     have u:xs.length=i.size:=by rw [<-m,ē,hlen]
     have ⟨w',E,F,G,H,I,J⟩:=core _ _ ⟨.aG (bw x o xs),ty⟩ (hM.row q K) (λp T=>hsc p (Ĩ _ T)) (by simpa [è.den,hlen] using hle) rfl (by
      simp only [è.den];rw [lY,m,hlen,u])
     exact ⟨w',E,hM.Ao q K (by intro M l;simp [è.ids] at l) F G H I J⟩
    ·cases h
   ·cases h
  ·cases h
 ·cases h
end
section
variable {P:Program} {T:dW} {n:Nat} {V0:Ó} {bQ:Mw} {β0:Nat->Nat} {st:St} {β:Nat->Nat} {a:Act} {w:World} {V:Ó}
def Rb (xs:zA um):∀(cs:Array um)(off:Nat),off+xs.length<=cs.size ->(xs.toArray.zipIdx.foldl (λcs (p:um×Nat)=>cs.setIfInBounds (off+p.2) p.1) cs)=(cs.toList.take off++xs++cs.toList.drop (off+xs.length)).toArray:=by
 have gen:∀(xs:zA um)(k:Nat)(cs:zA um)(off:Nat),off+k+xs.length<=cs.length ->
   (xs.zipIdx k).foldl (λ(cs:Array um) (p:um×Nat)=>cs.setIfInBounds (off+p.2) p.1) cs.toArray=(cs.take (off+k)++xs++cs.drop (off+k+xs.length)).toArray:=by
  intro xs
  induction xs with
  | nil=>intro k cs off _;simp
  | cons x r u=>
   intro k cs off h;simp only [Ā] at h;simp only [List.zipIdx_cons,Š,List.setIfInBounds_toArray];rw [u (k+1) (cs.set (off+k) x) off (by simp;omega)];congr 1;have a:off+k<cs.length:=ω
   rw [Qs5,Ä a]
   have b:(cs.take (off+k)++x::cs.drop (off+k+1)).take (off+(k+1))=cs.take (off+k)++[x]:=by rw [List.take_append,Ŋ (by simp;omega),ê,ğ ω,show off+(k+1)-(off+k)=1 from ω];simp
   have c:(cs.take (off+k)++x::cs.drop (off+k+1)).drop (off+(k+1)+r.length)=cs.drop (off+k+(r.length+1)):=by rw [List.drop_append,Ŀ (by simp;omega),ê,ğ ω,show off+(k+1)+r.length-(off+k)=r.length+1 from ω];grind [List.drop_drop]
   rw [b,c];simp
 intro cs off h;have:=gen xs 0 cs.toList off (by simpa using h);simpa [<-Array.foldl_toList] using this
def s_ {place:Nat->Option (Nat×Nat)}:∀(z:zA (Nat×SV))(cells out:zA C),t_ place cells z=some out ->(∀x∈z,∀v:C,v∈x.2.cells->∀p∈gT v,p) ->Instr.fill place (cells.map (C.den β)).toArray (z.map λx=>(x.1,x.2.den β))=some (out.map (C.den β)).toArray/\(∀s∈out.flatMap C.ids,s∈cells.flatMap C.ids\/∃x∈z,s∈x.2.ids)
 | [],cells,out,h,_=>by
  simp only [t_,ā] at h;subst h;exact ⟨rfl,λs E=>.inl E⟩
 | (i,x)::r,cells,out,h,hone=>by
  simp only [t_] at h;split at h
  ·cases h
  ·rename_i off size u;split at h
   ·rename_i F;simp only [Ċ,beq_eq,Qd4] at F;obtain ⟨⟨M,hle⟩,hnt⟩:=F;have hle:=ő hle;have hnt:x.Cs=false:=by simpa using hnt
    have e:∀p∈x.gT,p:=λp u=>by
     have ⟨v,f,u⟩:=ċ.1 u;exact hone (i,x) ψ v f p u
    obtain ⟨b,-⟩:=SV.xT (β:=β) hnt e;have ⟨j,g⟩:=s_ r _ _ h (λy c=>hone y (ø _ c));refine ⟨?_,?_⟩
    ·simp only [ĺ,Instr.fill,u];rw [Ã (by rw [b];simp [M];omega)];rw [b];have:=Rb (x.cells.map (C.den β)) (cells.map (C.den β)).toArray off (by simpa [M] using hle);grind [wR]
    ·intro s E;rcases g s E with d|⟨y,c,d⟩
     ·rcases wQ d with a|a
      ·exact .inl a
      ·exact .inr ⟨(i,x),ψ,SV.xU hnt a⟩
     grind
   ·cases h
def mP (E:Þ n V0 bQ β0 st β a w V):∀(l:zA (Nat×Operand))(u:zA (Nat×SV)),ö st.bK l=some u ->(l.map λx=>(x.1,a.eval x.2))=(u.map λx=>(x.1,x.2.den β))/\∀x∈u,ď st x.2
 | [],u,h=>by simp only [ö,ā] at h;subst h;exact ⟨rfl,λx z=>by cases z⟩
 | (i,o)::r,u,h=>by
  simp only [ö] at h;split at h
  ·rename_i x l z F;simp only [ā] at h;subst h;have ⟨M,N⟩:=mP E r l F;refine ⟨by simp [M,E.eval z],λy b=>?_⟩;rcases ç.1 b with rfl|b
   ·exact E.live z
   ·exact N y b
  ·cases h
def iB (z:Þ n V0 bQ β0 st β a w V):∀(l:zA Operand)(xs:zA SV),cO st.bK l=some xs ->l.map a.eval=xs.map (SV.den β)/\∀x∈xs,ď st x
 | [],xs,h=>by simp only [cO,ā] at h;subst h;exact ⟨rfl,λx u=>by cases u⟩
 | o::r,xs,h=>by
  simp only [cO] at h;split at h
  ·rename_i x l u E;simp only [ā] at h;subst h;have ⟨F,M⟩:=iB z r l E;refine ⟨by simp [F,z.eval u],λy b=>?_⟩;rcases ç.1 b with rfl|b
   ·exact z.live u
   ·exact M y b
  ·cases h
def qp (hT:dW.ok P T):∀(gs:zA Field)(pl:zA (Nat×Nat)),iu T (gs.map λf=>(f.type,f.offset))=some pl ->∀w:World,(gs.mapM λf:Field=>do pure (f.offset,<-sizeOf f.type)).run P w=.ok pl w
 | [],pl,h,w=>by simp only [List.map_nil,iu,ā] at h;subst h;simp
 | f::r,pl,h,w=>by
  simp only [ĺ,iu] at h;split at h
  ·rename_i i l hi u;simp only [ā] at h;subst h;obtain ⟨info,d,z,y,F,M,N,E,-⟩:=aM (hT _ _ hi);have:=qp hT r l u w;simp only [bind_pure_comp] at this;simp [List.mapM_cons,aS y,this,E]
  ·cases h
def fO {i:TI}{z:um}(h:i.zero=z.cells.toList.map C.ofConst):(i.zero.map (C.den β)).toArray=z.cells/\i.zero.flatMap C.ids=[]:=by rw [h];exact ⟨by rw [KJ],HV _⟩
def Ia {u:zA (Nat×SV)}(h:∀p∈u.flatMap (λx=>x.2.gT),p):∀x∈u,∀v:C,v∈x.2.cells->∀p∈gT v,p:=
 λx a v b p c=>h p (ċ.2 ⟨x,a,ċ.2 ⟨v,b,c⟩⟩)
def parts_eq {parts:Array (Nat×Operand)}{u:zA (Nat×SV)}(h:(parts.toList.map λx=>(x.1,a.eval x.2))=(u.map λx=>(x.1,x.2.den β))):(parts.map λx=>(x.1,a.eval x.2)).toList=u.map λx=>(x.1,x.2.den β):=by rw [Qf0];exact h
def Hi (hT:dW.ok P T)(M:Þ n V0 bQ β0 st β a w V){t:TypeId}{i:TI}(hi:pN P t=some i){fs:zA (TypeId×Nat)}(F:i.k=.struct fs){parts:Array (Nat×Operand)}{E:zA (Nat×SV)}(N:ö st.bK parts.toList=some E){pl:zA (Nat×Nat)}(hpl:iu T fs=some pl){cs:zA C}(O:t_ (λj=>pl[j]?) i.zero E=some cs)(hsc:∀p∈E.flatMap (λx=>x.2.gT),p):(Instr.build t (parts.map λx=>(x.1,a.eval x.2))).run P w=.ok (SV.den β (.agg cs)) w/\ď st (.agg cs):=by have ⟨info,d,z,b,c,e,g,A,B,l⟩:=aM hi;have ⟨m,o⟩:=mP M _ _ N;rw [g] at F;obtain ⟨gs,rfl,rfl⟩:=lE F;have ⟨q,r⟩:=fO (β:=β) l;have ⟨f1,f2⟩:=s_ (β:=β) _ _ _ O (Ia hsc);have hm:=qp hT gs.toList pl hpl w;refine ⟨?_,?_⟩;{have u:(gs.mapM λf:Field=>do pure (f.offset,<-sizeOf f.type)).run P w=.ok pl.toArray w:=by{grind [Array.mapM_eq_mapM_toList,Sem.run_map,Result.andThen_ok]};simp only [Instr.build,Sem.run_bind,kX b e,Result.andThen_ok,aj c,u];rw [parts_eq m,<-q];have:(λj:Nat=>pl.toArray[j]?)=λj:Nat=>pl[j]?:=by{funext j;simp};rw [this,f1];rfl};{intro s v;rcases f2 s v with h|⟨x,y,h⟩;{rw [r] at h;cases h};{exact o x y s h}}
def JH (hT:dW.ok P T)(hM:Þ n V0 bQ β0 st β a w V){t:TypeId}{i:TI}(hi:pN P t=some i){m:Nat}{e:TypeId}(Z:i.k=.arr m e){parts:Array (Nat×Operand)}{N:zA (Nat×SV)}(hp:ö st.bK parts.toList=some N){O:TI}(he:aH T e=some O){cs:zA C}(hf:t_ (λj=>some (j*O.size,O.size)) i.zero N=some cs)(hsc:∀p∈N.flatMap (λx=>x.2.gT),p):(Instr.build t (parts.map λx=>(x.1,a.eval x.2))).run P w=.ok (SV.den β (.agg cs)) w/\ď st (.agg cs):=by have ⟨info,d,z,b,c,f,g,D,E,l⟩:=aM hi;have ⟨F,G,H,o,I,J,K,q,L,M⟩:=aM (hT _ _ he);have ⟨r,u⟩:=mP hM _ _ hp;rw [g] at Z;obtain rfl:=rj Z;have ⟨v,y⟩:=fO (β:=β) l;have ⟨f1,f2⟩:=s_ (β:=β) _ _ _ hf (Ia hsc);refine ⟨?_,?_⟩;{simp only [Instr.build,Sem.run_bind,kX b f,Result.andThen_ok,aj c,aS o];rw [parts_eq r,<-v,<-q,f1];rfl};{intro s A;rcases f2 s A with h|⟨x,B,h⟩;{rw [y] at h;cases h};{exact u x B s h}}
def R3 {α:Type}[Inhabited α](u:zA α)(m:Nat):((List.range (m*u.length)).map λj=>u.toArray[j%u.length]!)=(List.replicate m u).flatten:=by
 induction m with
 | zero=>simp
 | succ m y=>
  rw [List.replicate_succ',List.flatten_append,<-y,Ś,List.range_add,ş];congr 1;simp only [List.flatten_cons,List.flatten_nil,ą,Qs1];apply Qg6;grind [List.getElem?_range,Nat.add_mul_mod_self_right,Nat.mod_eq_of_lt]
def Yn (m:Nat)(u:zA C):(rep m u).map (C.den β)=(List.replicate m (u.map (C.den β))).flatten:=by unfold rep;rw [List.map_flatten,Qs6]
def Ym {m:Nat}{u:zA C}(h:u.flatMap C.ids=[]):(rep m u).flatMap C.ids=[]:=by
 unfold rep
 induction m<;>grind
theorem mV (m u):tQ m u=(List.replicate m u).flatten:=by
 unfold tQ;split
 ·rename_i z
  induction m<;>grind
 ·rfl
theorem xK {z:um}{m}(k)(u:k=m*z.cells.size):((Array.range k).map λj=>z.cells[j%z.cells.size]!)=((List.replicate m z.cells.toList).flatten).toArray:=by apply ŀ;rw [Qf0,Array.toList_range];subst u;have:=R3 z.cells.toList m;simpa using this
def BF {z:um}{m:Nat}(u:m*z.cells.size=0):(List.replicate m z.cells.toList).flatten=[]:=by rcases Qp3.1 u with h|h;{subst h;rfl};{have:z.cells.toList=[]:=χ;rw [this];simp}
def Vk:Array.range 0=#[]:=rfl
def BG (hT:dW.ok P T)(hM:Þ n V0 bQ β0 st β a w V){t:TypeId}{i:TI}(hi:pN P t=some i){e:TypeId}(hk:i.k=.slice e){len:Nat}{parts:Array (Nat×Operand)}{ps:zA (Nat×SV)}(hp:ö st.bK parts.toList=some ps){Z:TI}(he:aH T e=some Z)(hlen:len*Z.size<=16777216)(hzl:Z.zero.length=Z.size)(hz0:Z.size≠0){cs:zA C}(hf:t_ (λj=>some (j*Z.size,Z.size)) (rep len Z.zero) ps=some cs)(hsc:∀p∈ps.flatMap (λx=>x.2.gT),p):(Instr.buildSlice t len (parts.map λx=>(x.1,a.eval x.2))).run P w=.ok (.slice (some ⟨w.heap.size,0,none⟩) len len) (w.alloc (aY.obj β ⟨.lit cs,e⟩))/\∀s∈cs.flatMap C.ids,∃b,st.boxes s=some b:=by have ⟨info,d,z,K,y,L,A,M,N,O⟩:=aM hi;obtain ⟨g,Q,l,r,R,B,S,o,U,D⟩:=aM (hT _ _ he);have ⟨u,E⟩:=mP hM _ _ hp;rw [A] at hk;obtain rfl:=bo hk;have ⟨v,F⟩:=fO (β:=β) D;have ⟨f1,f2⟩:=s_ (β:=β) _ _ _ hf (Ia hsc);have f:l.cells.size=g.size:=by{rw [<-v];simp [hzl,o]};refine ⟨?_,?_⟩;{have c:((List.replicate len l.cells.toList).flatten).toArray=((rep len Z.zero).map (C.den β)).toArray:=by{rw [Yn,<-v]};have G:¬len*g.size>2^24:=by{rw [<-o];simpa using hlen};simp only [Instr.buildSlice,Sem.run_bind,aj y,Result.andThen_ok,aS r,Sem.run_ite,Ã G];by_cases q:len*g.size=0;{have H:=BF (z:=l) (m:=len) (by rw [f];exact q);rw [H] at c;simp only [q,Ï,Sem.run_pure,Result.andThen_ok,Vk,Array.map_empty,<-c] at f1 ⊢;rw [parts_eq u,<-o];rw [f1];simp only [Sem.run_bind,newRow,run_newObj,Result.andThen_ok,Sem.run_pure];rfl};{simp only [q,Ð,kX r B,Sem.run_pure,Result.andThen_ok];rw [xK (z:=l) (m:=len) (len*g.size) (by rw [f]),c,parts_eq u,<-o,f1];simp only [Sem.run_bind,newRow,run_newObj,Result.andThen_ok,Sem.run_pure];rfl}};{intro s I;rcases f2 s I with h|⟨x,J,h⟩;{rw [Ym F] at h;cases h};{exact E x J s h}}
def G1 {x:Int}(u:0<=x)(y:x<9223372036854775808:=by omega):i64.wrap x=x:=by unfold IntKind.wrap IntKind.bits IntKind.signed;simp;omega
def EH (hT:dW.ok P T){t:TypeId}{i:TI}(hi:pN P t=some i){e:TypeId}(O:i.k=.slice e){M:TI}(he:aH T e=some M){k1 k2:IntKind}{l c:Int}(hb:M.bytes≠0)(hs:M.size≠0){N:zA um}(Z:mT M.zero=some N)(hzl:M.size=N.length)(c1:0<=l)(c2:l<=c)(c3:(M.bytes:Int)*c<=2^47):(Instr.makeSlice t (.int k1 l) (.int k2 c)).run P w=.ok (.slice (some ⟨w.heap.size,0,none⟩) l.toNat c.toNat) (w.alloc (aY.obj β ⟨.row (tQ c.toNat N),e⟩)):=by obtain ⟨info,d,z,A,p,B,q,C,D,E⟩:=aM hi;have ⟨f,F,g,h,G,r,H,s,u,v⟩:=aM (hT _ _ he);rw [q] at O;obtain rfl:=bo O;have ⟨n,I⟩:=fO (β:=β) v;obtain ⟨d1,-⟩:=gj (β:=β) Z;have b:g.cells.size=f.size:=by{rw [<-n,d1];simp [<-hzl,s]};have o:c<=2^47:=by{have:1<=(M.bytes:Int):=ω;have:=Int.mul_le_mul_of_nonneg_right this (by omega:0<=c);omega};have x:i64.wrap c=c:=G1 ω;rw [u] at c3;have t1:(decide (c<0)||decide ((f.bytes:Int)*c>2^48))=false:=χ;have t2:decide (l<0)=false:=by{simp;omega};have t3:decide (l>c)=false:=by{simp;omega};have a:(List.replicate c.toNat g.cells.toList).flatten=tQ c.toNat N:=by{rw [mV,<-d1,<-n]};simp only [Instr.makeSlice,Sem.run_bind,aj p,Result.andThen_ok,nk h,asInt,asIntOf,Sem.run_pure,(G1 c1),x,t1,t2,t3,Bool.or_self,Ŏ,Ð,run_askRoom,aS h,Sem.run_ite];by_cases j:c.toNat*f.size=0;{have y:=BF (z:=g) (m:=c.toNat) (by rw [b];exact j);rw [y] at a;simp only [j,Ï,Sem.run_bind,Sem.run_pure,Result.andThen_ok,Vk,Array.map_empty,newRow,run_newObj,<-a];rfl};{simp only [j,Ð,kX h r,Result.andThen_ok];rw [xK (z:=g) (m:=c.toNat) (c.toNat*f.size) (by rw [b]),a];simp only [Sem.run_bind,newRow,run_newObj,Result.andThen_ok,Sem.run_pure];rfl}
end
section
variable {P:Program} {T:dW} {n:Nat} {V0:Ó} {bQ:Mw} {β0:Nat->Nat} {st:St} {β:Nat->Nat} {a:Act} {w:World} {V:Ó}
def Km {gs:Array Field}{f y off:Nat}(h:(gs.toList.map λf=>(f.type,f.offset))[f]?=some (y,off)):∃u,gs[f]?=some u/\u.type=y/\u.offset=off:=by rw [Wz5] at h;(cases z:gs.toList[f]? with|none=>{rw [z] at h;cases h}|some u=>grind)
def zv (hT:dW.ok P T){t:TypeId}{i:TI}(hi:pN P t=some i){fs:zA (TypeId×Nat)}(y:i.k=.struct fs){f E off:Nat}(F:fs[f]?=some (E,off)){fi:TI}(hfi:aH T E=some fi)(M:fi.size≠0)(ad:Addr):(Instr.fieldAt t (.pointer (some ad)) f).run P w=.ok (.pointer (some (ad.add off))) w:=by have ⟨info,d,z,h,b,j,c,l,m,n⟩:=aM hi;obtain ⟨a,fd,o,e,p,q,r,s,u,v⟩:=aM (hT _ _ hfi);rw [c] at y;obtain ⟨gs,rfl,rfl⟩:=lE y;obtain ⟨x,g,rfl,rfl⟩:=Km F;simp only [Instr.fieldAt,Sem.run_bind,aj b,Result.andThen_ok,g,Instr.sureAddr,Sem.run_pure,fieldPlace,aS e];rw [Sem.run_ite,Ã ω];rfl
def KY {t:TypeId}{i:TI}(hi:pN P t=some i)(cs:zA C)(off:Nat):(xH i.k=true->(part t (cs.map (C.den β)).toArray off).run P w=.ok (SV.den β (.agg ((cs.drop off).take i.size))) w)/\(∀c,xH i.k=false->cs[off]?=some c->(part t (cs.map (C.den β)).toArray off).run P w=.ok (c.den β) w):=by have ⟨info,d,z,f,b,h,e,j,l,m⟩:=aM hi;refine ⟨λa=>?_,λc a g=>?_⟩;{rw [e] at a;simp only [part,Sem.run_bind,jx b,Result.andThen_ok,a,Ï,aS f,Sem.run_pure,SV.den];grind [List.map_take,List.map_drop]};{rw [e] at a;simp [part,jx b,a,g]}
def QY (hT:dW.ok P T){t:TypeId}{i:TI}(hi:pN P t=some i){fs:zA (TypeId×Nat)}(u:i.k=.struct fs){f y off:Nat}(E:fs[f]?=some (y,off)){fi:TI}(hfi:aH T y=some fi){cs:zA C}:(xH fi.k=true->(Instr.field t (SV.den β (.agg cs)) f).run P w=.ok (SV.den β (.agg ((cs.drop off).take fi.size))) w)/\(∀c,xH fi.k=false->cs[off]?=some c->(Instr.field t (SV.den β (.agg cs)) f).run P w=.ok (c.den β) w):=by have ⟨info,d,z,n,g,o,j,p,q,s⟩:=aM hi;rw [j] at u;obtain ⟨gs,rfl,rfl⟩:=lE u;obtain ⟨b,l,rfl,rfl⟩:=Km E;have e:=KY (w:=w) (β:=β) (hT _ _ hfi) cs b.offset;have a:∀r,(part b.type (cs.map (C.den β)).toArray b.offset).run P w=r->(Instr.field t (SV.den β (.agg cs)) f).run P w=r:=by{intro r a;simp only [Instr.field,Sem.run_bind,aj g,Result.andThen_ok,l,asAgg,SV.den,Sem.run_pure,a]};exact ⟨λh=>a _ (e.1 h),λc h m=>a _ (e.2 c h m)⟩
def fB (k:IntKind)(x:Int):(asIntOf (.int k x)).run P w=.ok (k,x) w:=rfl
def C6 (hT:dW.ok P T){t:TypeId}{i:TI}(hi:pN P t=some i){x Z:SV}{sc:zA Prop}{v:SV}(h:jt T i x Z=.ret sc v)(hsc:∀p∈sc,p):(Instr.indexAt t (x.den β) (Z.den β)).run P w=.ok (v.den β) w/\∀s∈v.ids,s∈x.ids:=by have ⟨info,d,z,J,j,K,q,L,M,N⟩:=aM hi;unfold jt at h;split at h;{rename_i k m;split at h;{rename_i e l;rw [q] at l;obtain rfl:=bo l;split at h;{rename_i r he;have ⟨u,y,A,f,B,D,E,g,F,G⟩:=aM (hT _ _ he);split at h;{rename_i n len c;simp only [Q.ret.injEq] at h;obtain ⟨rfl,rfl⟩:=h;have H:=hsc (n.isSome=true) ψ;have b:=hsc (0<=m/\m<(len:Int)) ψ;obtain ⟨p,rfl⟩:=Qd6.1 H;refine ⟨?_,λs a=>a⟩;simp [Instr.indexAt,SV.den,C.den,fB,aj j,b,aS f,af,g]};{rename_i s o len c;simp only [Q.ret.injEq] at h;obtain ⟨rfl,rfl⟩:=h;have b:=hsc (0<=m/\m<(len:Int)) ψ;refine ⟨?_,λs a=>by simpa [SV.ids,C.ids] using a⟩;simp [Instr.indexAt,SV.den,C.den,fB,aj j,b,aS f,gN,g]};{rename_i s len c;simp only [Q.ret.injEq] at h;obtain ⟨rfl,rfl⟩:=h;have b:=hsc (0<=m/\m<(len:Int)) ψ;have O:=hsc (len<=c) ψ;refine ⟨?_,λs a=>by simpa [SV.ids,C.ids] using a⟩;have I:mA (β s) c=some ⟨β s,0,none⟩:=by{unfold mA;rw [Ã ω]};simp [Instr.indexAt,SV.den,C.den,fB,aj j,b,aS f,gN,g,I]};{cases h}};{cases h}};{rename_i len e l;rw [q] at l;obtain rfl:=rj l;split at h;{rename_i r he;have ⟨u,y,A,f,B,D,E,g,F,G⟩:=aM (hT _ _ he);split at h;{rename_i s o;simp only [Q.ret.injEq] at h;obtain ⟨rfl,rfl⟩:=h;have b:=hsc (0<=m/\m<(len:Int)) ψ;refine ⟨?_,λs a=>by simpa [SV.ids,C.ids] using a⟩;simp [Instr.indexAt,Instr.sureAddr,SV.den,C.den,fB,aj j,b,aS f,gN,g]};{rename_i n;simp only [Q.ret.injEq] at h;obtain ⟨rfl,rfl⟩:=h;obtain ⟨p,rfl⟩:=Qd6.1 (hsc (n.isSome=true) ψ);refine ⟨?_,λs a=>a⟩;simp [Instr.indexAt,Instr.sureAddr,SV.den,C.den,fB,aj j,(hsc (0<=m/\m<(len:Int)) ψ),aS f,af,g]};{cases h}};{cases h}};{cases h}};{cases h}
def Qv {k:IntKind}{x:Int}{y:Nat}(code:BoundsCode)(h:0<=x/\x<=(y:Int)):(Instr.sliceBound (.int k x) y code).run P w=.ok x.toNat w:=by simp [Instr.sliceBound,fB,h]
def jV {len c:Nat}{lo hi mx:Option SV}{sc:zA Prop}{l:Option Nat}{h m:Nat}(u:tB len c lo hi mx=some (sc,l,h,m))(hsc:∀p∈sc,p):(Instr.sliceBounds true len c (lo.map (SV.den β)) (hi.map (SV.den β)) (mx.map (SV.den β))).run P w=.ok (l.getD 0,h,m) w:=by
 unfold tB at u
 cases y:Yg c mx with
 | none=>rw [y] at u;cases u
 | some t=>
  obtain ⟨g,a⟩:=t;rw [y] at u;dsimp only at u
  cases z:Vd len a hi mx with
  | none=>rw [z] at u;cases u
  | some t=>
   obtain ⟨i,b⟩:=t;rw [z] at u;dsimp only at u
   cases E:qLow b lo with
   | none=>rw [E] at u;cases u
   | some t=>
    obtain ⟨j,f⟩:=t;rw [E] at u;simp only [ā,Ő] at u;obtain ⟨rfl,rfl,rfl,rfl⟩:=u
    have hm:((mx=none/\a=c)\/∃k x,mx=some (.c (.v (.int k x)))/\a=x.toNat/\(0<=x/\x<=(c:Int))):=by unfold Yg at y;split at y;{simp only [ā,Ő] at y;exact .inl ⟨rfl,y.2.symm⟩};{rename_i k x;simp only [ā,Ő] at y;obtain ⟨rfl,rfl⟩:=y;exact .inr ⟨k,x,rfl,rfl,hsc _ ψ⟩};{cases y}
    have d:((hi=none/\mx=none/\b=len)\/∃k x,hi=some (.c (.v (.int k x)))/\b=x.toNat/\(0<=x/\x<=(a:Int))):=by unfold Vd at z;split at z;{rename_i k x;simp only [ā,Ő] at z;obtain ⟨rfl,rfl⟩:=z;exact .inr ⟨k,x,rfl,rfl,hsc _ ψ⟩};{simp only [ā,Ő] at z;exact .inl ⟨rfl,rfl,z.2.symm⟩};{cases z}
    have e:((lo=none/\f=none)\/∃k x,lo=some (.c (.v (.int k x)))/\f=some x.toNat/\(0<=x/\x<=(b:Int))):=by unfold qLow at E;split at E;{simp only [ā,Ő] at E;exact .inl ⟨rfl,E.2.symm⟩};{rename_i k x;simp only [ā,Ő] at E;obtain ⟨rfl,rfl⟩:=E;exact .inr ⟨k,x,rfl,rfl,hsc _ ψ⟩};{cases E}
    clear y z E hsc
    rcases hm with ⟨rfl,rfl⟩|⟨n,o,rfl,rfl,b1⟩<;>rcases d with ⟨rfl,F,rfl⟩|⟨k2,M,rfl,rfl,b2⟩<;>rcases e with ⟨rfl,rfl⟩|⟨N,O,rfl,rfl,b3⟩ <;>
     (try cases F) <;>
     simp only [Instr.sliceBounds,Option.map_none,Wj0,SV.den,C.den,Sem.run_bind,Sem.run_pure,Result.andThen_ok,Wq5,Qh7,Option.isSome_none,Option.isSome_some,Ï,Ŏ,Ð] <;>
     (repeat (rw [Qv _ ξ];simp only [Result.andThen_ok]))
def NP (hT:dW.ok P T){t:TypeId}{i:TI}(hi:pN P t=some i){e:TypeId}(Z:i.k=.slice e){ei:TI}(he:aH T e=some ei){x:SV}{lo O mx:Option SV}{sc:zA Prop}{v:SV}(h:yE ei.size x lo O mx=.ret sc v)(hsc:∀p∈sc,p):(Instr.sliceAt t (x.den β) (lo.map (SV.den β)) (O.map (SV.den β)) (mx.map (SV.den β))).run P w=.ok (v.den β) w/\∀s∈v.ids,s∈x.ids:=by have ⟨info,d,z,y,j,A,u,B,D,E⟩:=aM hi;have ⟨F,G,H,n,I,J,K,r,L,M⟩:=aM (hT _ _ he);rw [u] at Z;obtain rfl:=bo Z;have a:∀p:OA,p.map (λx=>x.add 0)=p:=by{intro p;cases p<;>simp [Addr.add]};unfold yE at h;split at h;{rename_i N len c;split at h;{rename_i f q m b;simp only [Q.ret.injEq] at h;obtain ⟨rfl,rfl⟩:=h;have:=jV (P:=P) (w:=w) (β:=β) b hsc;refine ⟨?_,λs g=>g⟩;simp only [Instr.sliceAt,Instr.slice,SV.den,C.den,Sem.run_bind,aj j,Result.andThen_ok,this,aS n,Sem.run_pure,Wq5,œ,Wj1,a,ite_self]};{rename_i f l q m b;simp only [Q.ret.injEq] at h;obtain ⟨rfl,rfl⟩:=h;have:=jV (P:=P) (w:=w) (β:=β) b hsc;refine ⟨?_,λs g=>g⟩;simp only [Instr.sliceAt,Instr.slice,SV.den,C.den,Sem.run_bind,aj j,Result.andThen_ok,this,aS n,Sem.run_pure,Qh7,r];rfl};{cases h}};{rename_i s o len c;split at h;{rename_i f q m b;simp only [Q.ret.injEq] at h;obtain ⟨rfl,rfl⟩:=h;have:=jV (P:=P) (w:=w) (β:=β) b hsc;refine ⟨?_,λs g=>by simpa [SV.ids,C.ids] using g⟩;simp only [Instr.sliceAt,Instr.slice,SV.den,C.den,Sem.run_bind,aj j,Result.andThen_ok,this,aS n,Sem.run_pure,Wq5,œ,Wj1,a,ite_self]};{rename_i f l q m b;simp only [Q.ret.injEq] at h;obtain ⟨rfl,rfl⟩:=h;have:=jV (P:=P) (w:=w) (β:=β) b hsc;refine ⟨?_,λs g=>by simpa [SV.ids,C.ids] using g⟩;simp only [Instr.sliceAt,Instr.slice,SV.den,C.den,Sem.run_bind,aj j,Result.andThen_ok,this,aS n,Sem.run_pure,Qh7,r];congr 2;unfold jW;split<;>simp [gN]};{cases h}};{rename_i s len c;split at h;{split at h;{rename_i f q m b;simp only [Q.ret.injEq] at h;obtain ⟨rfl,rfl⟩:=h;have hm:m=c:=by{unfold tB at b;simp only [Yg] at b;grind};have:=jV (P:=P) (w:=w) (β:=β) b hsc;refine ⟨?_,λs g=>by simpa [SV.ids,C.ids] using g⟩;simp only [Instr.sliceAt,Instr.slice,SV.den,C.den,Sem.run_bind,aj j,Result.andThen_ok,this,aS n,Sem.run_pure,Wq5,œ,Wj1,a,ite_self,hm]};{cases h}};{cases h}};{cases h}
end
section
variable {P:Program} {T:dW} {n:Nat} {V0:Ó} {bQ:Mw} {β0:Nat->Nat} {st:St} {β:Nat->Nat} {a:Act} {w:World} {V:Ó}
theorem fk {s:Sem um}{v w'}(h:s.run P w=.ok v w'):(do pure (Next.value (<-s)):Sem Next).run P w=.ok (.value v) w':=by simp [h]
def run_u {s:Sem Unit}{w':World}(h:s.run P w=.ok () w'):(do s;pure Next.skip:Sem Next).run P w=.ok .skip w':=by simp [h]
def yh {f:Int->Int->Int}{k:IntKind}{g:um->um->Sem um}(u:∀x y k',(g (.int k x) (.int k' y))=pure (.int k (f x y))):∀(r:zA SV)(x m:Int),ĭ f k x r=some m ->((r.map (SV.den β)).foldlM g (.int k x)).run P w=.ok (.int k m) w
 | [],x,m,h=>by simp only [ĭ,ā] at h;subst h;rfl
 | y::r,x,m,h=>by
  unfold ĭ at h;split at h
  ·rename_i e;cases e
  ·rename_i k' b z e;simp only [ō] at e;obtain ⟨rfl,rfl⟩:=e;split at h
   ·simp only [ĺ,List.foldlM_cons,SV.den,C.den,u,pure_bind];exact yh u r _ m h
   ·cases h
  ·cases h
def P6:∀{cs:zA C} {l:zA (OA×Nat×Nat)} {k:Nat},P5 cs=some l->k<l.length->cs[k]?=some (.v (.slice (l.getD k (none,0,0)).1 (l.getD k (none,0,0)).2.1 (l.getD k (none,0,0)).2.2))
 | [],l,k,h,u=>by cases h;cases u
 | c::r,l,k,h,u=>by
  unfold P5 at h;split at h
  ·cases ‹_=[]›
  ·rename_i p n d z e;cases e;split at h
   ·rename_i l' y;cases h
    cases k with
    | zero=>rfl
    | succ k=>simpa using P6 y (by simpa using u)
   ·cases h
  ·cases h
def zk {d:TypeDesc}(h:nE d=.str):d=.string:=by cases d<;>simp_all [nE]
def Ip {b:Builtin}{xs:zA SV}{t:TypeId}{ts:zA TypeId}{ty:TypeId}{cs:Array ut}{i:TI}(hi:pN P t=some i){sc:zA Prop}{v:SV}(h:oI b i.k xs=.ret sc v):(builtin b (t::ts).toArray ty cs (xs.map (SV.den β)).toArray).run P w=.ok (.value (v.den β)) w/\v.ids=[]:=by have ⟨info,d,z,u,l,A,n,B,D,E⟩:=aM hi;unfold oI at h;split at h;{cases h};{rename_i x r;split at h;{split at h;{rename_i e p m c j;rw [n] at j;obtain rfl:=bo j;simp only [Q.ret.injEq] at h;obtain ⟨rfl,rfl⟩:=h;refine ⟨?_,rfl⟩;simp [builtin,Builtin.len_,aj l,SV.den,C.den,goInt]};{rename_i e s o m c j;rw [n] at j;obtain rfl:=bo j;simp only [Q.ret.injEq] at h;obtain ⟨rfl,rfl⟩:=h;refine ⟨?_,rfl⟩;simp [builtin,Builtin.len_,aj l,SV.den,C.den,goInt]};{rename_i e s m c j;rw [n] at j;obtain rfl:=bo j;simp only [Q.ret.injEq] at h;obtain ⟨rfl,rfl⟩:=h;refine ⟨?_,rfl⟩;simp [builtin,Builtin.len_,aj l,SV.den,C.den,goInt]};{rename_i s j;rw [n] at j;obtain rfl:=zk j;simp only [Q.ret.injEq] at h;obtain ⟨rfl,rfl⟩:=h;refine ⟨?_,rfl⟩;simp [builtin,Builtin.len_,aj l,SV.den,C.den,goInt]};{cases h}};{split at h;{rename_i e p m c j;rw [n] at j;obtain rfl:=bo j;simp only [Q.ret.injEq] at h;obtain ⟨rfl,rfl⟩:=h;refine ⟨?_,rfl⟩;simp [builtin,Builtin.cap_,aj l,SV.den,C.den,goInt]};{rename_i e s o m c j;rw [n] at j;obtain rfl:=bo j;simp only [Q.ret.injEq] at h;obtain ⟨rfl,rfl⟩:=h;refine ⟨?_,rfl⟩;simp [builtin,Builtin.cap_,aj l,SV.den,C.den,goInt]};{rename_i e s m c j;rw [n] at j;obtain rfl:=bo j;simp only [Q.ret.injEq] at h;obtain ⟨rfl,rfl⟩:=h;refine ⟨?_,rfl⟩;simp [builtin,Builtin.cap_,aj l,SV.den,C.den,goInt]};{cases h}};{split at h;{rename_i k a;split at h;{rename_i m hm;simp only [Q.ret.injEq] at h;obtain ⟨rfl,rfl⟩:=h;refine ⟨?_,rfl⟩;have:=yh (P:=P) (w:=w) (β:=β) (f:=cH) (k:=k) (g:=Builtin.min2) (λx y q=>by simp [Builtin.min2,cH]) r a m hm;simp [builtin,Builtin.min_,SV.den,C.den] at this ⊢;rw [this];rfl};{cases h}};{cases h}};{split at h;{rename_i k a;split at h;{rename_i m hm;simp only [Q.ret.injEq] at h;obtain ⟨rfl,rfl⟩:=h;refine ⟨?_,rfl⟩;have:=yh (P:=P) (w:=w) (β:=β) (f:=ct) (k:=k) (g:=Builtin.max2) (λx y q=>by simp [Builtin.max2,ct]) r a m hm;simp [builtin,Builtin.max_,SV.den,C.den] at this ⊢;rw [this];rfl};{cases h}};{cases h}};{cases h}}
def TB {x:ut×zA C}{y:SV}(h:xW x=some y):kG β x=y.den β/\∀s∈y.ids,s∈x.2.flatMap C.ids:=by
 obtain ⟨b,cs⟩:=x
 cases b with
 | true=>simp only [xW,ā] at h;subst h;exact ⟨rfl,λs a=>a⟩
 | false=>
  match cs,h with
  | [],h=>simp [xW] at h
  | [c],h=>simp only [xW,ā] at h;subst h;exact ⟨rfl,λs a=>by simpa [SV.ids] using a⟩
  | _::_::_,h=>simp [xW] at h
def zJ:∀(xs:zA SV)(ss:zA Nat),CZ xs=some ss->xs.map (SV.den β)=(ss.map λs=>Value.pointer (some ⟨β s,0,none⟩))/\∀s∈ss,∃x∈xs,s∈x.ids
 | [],ss,h=>by simp only [CZ,ā] at h;subst h;exact ⟨rfl,λs u=>by cases u⟩
 | x::r,ss,h=>by
  unfold CZ at h;split at h
  ·rename_i e;cases e
  ·rename_i s y e;simp only [ō] at e;obtain ⟨rfl,rfl⟩:=e;split at h
   ·rename_i l b;simp only [ā] at h;subst h;have ⟨d,g⟩:=zJ r l b;refine ⟨by simp [d,SV.den,C.den],λf a=>?_⟩;rcases ç.1 a with rfl|a
    ·exact ⟨.c (.ptr f 0),ψ,by simp [SV.ids,C.ids]⟩
    grind
   ·cases h
  ·cases h
def CQ (u:Þ n V0 bQ β0 st β a w V){x:Option Operand}{v:Option SV}(h:Ic st.bK x=some v):x.map a.eval=v.map (SV.den β):=by (cases x with|none=>{simp only [Ic,ā] at h;subst h;rfl}|some o=>{simp only [Ic] at h;grind [u.eval]})
def tm {x y:SV}(u:ď st x)(h:∀s∈y.ids,s∈x.ids):ď st y:=λs a=>u s (h s a)
theorem pW {bx t x}:pV T bx t x=.fail\/∃sc s b,pV T bx t x=.Ao sc s b:=by
 unfold pV;split<;>(try split)<;>(try split)<;>(try split)<;>(try split)<;>(try split)<;>first|exact .inl rfl|exact .inr ⟨_,_,_,rfl⟩
def NN {bx:Nat->Option aY}{t:TypeId}{x:SV}{sc:zA Prop}{v:SV}(h:pV T bx t x=.ret sc v):False:=by grind [pW]
def K3 {bx:Nat->Option aY}{e:TypeId}{u:TI}{b x:SV}{sc:zA Prop}{v:SV}(h:cY bx e u b x=.ret sc v):False:=by unfold cY at h;grind
def RX (hT:dW.ok P T)(E:Þ n V0 bQ β0 st β a w V){o:Oper}{sc:zA Prop}{v:SV}(h:aT T st.bK st.boxes o.op=.ret sc v)(hsc:∀p∈sc,p):(execOp a.eval o).run P w=.ok (.value (v.den β)) w/\ď st v:=by unfold aT at h;split at h;(case h_1 op x hop=>split at h;{rename_i y hy;simp only [Q.ret.injEq] at h;obtain ⟨rfl,rfl⟩:=h;refine ⟨?_,E.live hy⟩;simp only [execOp,hop,E.eval hy];rfl};{cases h});(case h_2 op x hop=>split at h;{rename_i y hy;simp only [Q.ret.injEq] at h;obtain ⟨rfl,rfl⟩:=h;refine ⟨?_,E.live hy⟩;simp only [execOp,hop,E.eval hy];rfl};{cases h});(case h_3 op c x y hop=>split at h;{rename_i hc;split at h;{rename_i z hz;simp only [Q.ret.injEq] at h;obtain ⟨rfl,rfl⟩:=h;refine ⟨?_,E.live hz⟩;simp [execOp,hop,E.eval hz,E.eval hc,SV.den,C.den,asBool]};{cases h}};{rename_i hc;split at h;{rename_i z hz;simp only [Q.ret.injEq] at h;obtain ⟨rfl,rfl⟩:=h;refine ⟨?_,E.live hz⟩;simp [execOp,hop,E.eval hz,E.eval hc,SV.den,C.den,asBool]};{cases h}};{cases h});(case h_4=>split at h<;>cases h);(case h_5=>split at h;{split at h<;>cases h};{cases h});(case h_6 op t parts hop=>split at h;{rename_i i ps hi hps;have hi:=hT _ _ hi;split at h;{rename_i fs O;split at h;{rename_i pl hpl;split at h;{rename_i cs hcs;simp only [Q.ret.injEq] at h;obtain ⟨rfl,rfl⟩:=h;have ⟨N,M⟩:=Hi hT E hi O hps hpl hcs hsc;refine ⟨?_,M⟩;simp only [execOp,hop];exact fk N};{cases h}};{cases h}};{rename_i m e O;split at h;{rename_i ei Kr;split at h;{rename_i cs hcs;simp only [Q.ret.injEq] at h;obtain ⟨rfl,rfl⟩:=h;have ⟨N,M⟩:=JH hT E hi O hps Kr hcs hsc;refine ⟨?_,M⟩;simp only [execOp,hop];exact fk N};{cases h}};{cases h}};{cases h}};{cases h});(case h_7=>split at h;{split at h;{split at h;{split at h;{split at h<;>cases h};{cases h}};{cases h}};{cases h}};{cases h});(case h_8 op t x hop=>split at h;{rename_i i y hi hy;have ⟨N,M⟩:=Gy E (hT _ _ hi) h;refine ⟨?_,M⟩;simp only [execOp,hop,E.eval hy];exact fk N};{cases h});(case h_9=>split at h;{unfold ju at h;split at h;{split at h;{split at h;{split at h<;>cases h};{split at h<;>cases h};{split at h;{cases h};{split at h<;>cases h}};{cases h}};{cases h}};{cases h}};{cases h});(case h_10 op x hop=>split at h;{rename_i s o F;simp only [Q.ret.injEq] at h;obtain ⟨rfl,rfl⟩:=h;refine ⟨?_,E.live F⟩;simp [execOp,hop,E.eval F,SV.den,C.den]};{rename_i p F;simp only [Q.ret.injEq] at h;obtain ⟨rfl,rfl⟩:=h;obtain ⟨ad,rfl⟩:=Qd6.1 (hsc (p.isSome=true) ψ);refine ⟨?_,E.live F⟩;simp [execOp,hop,E.eval F,SV.den,C.den]};{cases h});(case h_11 op bop xt x y yt hop=>split at h;{rename_i p q hp hq;have key:(q=.v .nilIface->∃c,y=.const c)->Io T bop xt p q=.ret sc v->(execOp a.eval o).run P w=.ok (.value (v.den β)) w/\ď st v:=by{intro hc h;have ⟨N,M⟩:=Vc (P:=P) (w:=w) (β:=β) hT (ox:=x) (oy:=y) h hsc hc;refine ⟨?_,cw M⟩;simp only [execOp,hop,E.eval hp,E.eval hq];exact fk N};split at h;{split at h;{exact key (λ_=>⟨_,rfl⟩) h};{cases h}};{rename_i hne;exact key (λe=>Å e hne) h}};{cases h});(case h_12 op t x hop=>split at h;{rename_i F;simp only [Q.ret.injEq] at h;obtain ⟨rfl,rfl⟩:=h;refine ⟨?_,cw rfl⟩;simp [execOp,hop,E.eval F,SV.den,C.den,Op.unary]};{rename_i F;simp only [Q.ret.injEq] at h;obtain ⟨rfl,rfl⟩:=h;refine ⟨?_,cw rfl⟩;simp [execOp,hop,E.eval F,SV.den,C.den,Op.unary]};{rename_i b F;simp only [Q.ret.injEq] at h;obtain ⟨rfl,rfl⟩:=h;refine ⟨?_,cw rfl⟩;simp [execOp,hop,E.eval F,SV.den,C.den,Op.unary]};{cases h});(case h_13 op t x hop=>split at h;{rename_i k m F;simp only [Q.ret.injEq] at h;obtain ⟨rfl,rfl⟩:=h;refine ⟨?_,cw rfl⟩;simp [execOp,hop,E.eval F,SV.den,C.den,Op.unary,Op.intBits,b_]};{cases h});(case h_14 op t x hop=>split at h;{rename_i k m F;simp only [Q.ret.injEq] at h;obtain ⟨rfl,rfl⟩:=h;refine ⟨?_,cw rfl⟩;simp [execOp,hop,E.eval F,SV.den,C.den,Op.unary,Op.intArith]};{cases h});(case h_15 op src dst x hop=>split at h;{rename_i i0 i k m hi0 hi F;obtain ⟨Zw,d0,z0,g1,g2,-⟩:=aM (hT _ _ hi0);have ⟨info,d,z,N,M,h3,h4,h5,h6,h7⟩:=aM (hT _ _ hi);split at h;{rename_i k' O;rw [h4] at O;obtain rfl:=Kh O;simp only [Q.ret.injEq] at h;obtain ⟨rfl,rfl⟩:=h;refine ⟨?_,cw rfl⟩;simp only [execOp,hop,E.eval F];refine fk ?_;simp only [convert,Sem.run_bind,aj g2,aj M,Result.andThen_ok,SV.den,C.den];cases d0<;>rfl};{cases h}};{cases h});(case h_16 op f first caps hop=>split at h;{rename_i hf;split at h;{rename_i xs hxs;split at h;{rename_i ss hss;simp only [Q.ret.injEq] at h;obtain ⟨rfl,rfl⟩:=h;have ⟨N,M⟩:=iB E _ _ hxs;have ⟨h3,h4⟩:=zJ (β:=β) _ _ hss;refine ⟨?_,λs Z=>?_⟩;{have e1:first=#[]:=by{apply ŀ;exact hf};have e2:caps.map a.eval=(ss.map λs=>Value.pointer (some ⟨β s,0,none⟩)).toArray:=by{apply ŀ;rw [Qf0,N,h3]};simp [execOp,hop,Instr.makeFunc,e1,e2,SV.den,C.den]};{have ⟨x,F,hs'⟩:=h4 s Z;exact M x F s hs'}};{cases h}};{cases h}};{rename_i x hf;split at h;{rename_i cs hc F;split at h;{rename_i vs hvs;simp only [Q.ret.injEq] at h;obtain ⟨rfl,rfl⟩:=h;have e1:first=#[x]:=by{apply ŀ;exact hf};have e2:caps=#[]:=by{apply ŀ;exact hc};have e3:=E.eval F;simp only [SV.den,FM (β:=β) hvs] at e3;exact ⟨by simp [execOp,hop,Instr.makeFunc,e1,e2,e3,SV.den,C.den],λs Z=>by simp [SV.ids,C.ids] at Z⟩};{cases h}};{cases h}};{cases h});(case h_17=>split at h;{unfold Gz at h;split at h;{split at h;{split at h;{split at h;{split at h<;>cases h};{cases h}};{cases h}};{cases h}};{cases h}};{cases h});(case h_18 op t x lo hi mx hop=>split at h;{rename_i i xv l h' m hi' F hl hh hm;split at h;{rename_i e O;split at h;{rename_i ei Kr;have ⟨N,M⟩:=NP (P:=P) (w:=w) (β:=β) hT (hT _ _ hi') O Kr h hsc;refine ⟨?_,tm (E.live F) M⟩;simp only [execOp,hop,E.eval F,CQ E hl,CQ E hh,CQ E hm];exact fk N};{cases h}};{cases h}};{cases h});(case h_19 op t x f hop=>split at h;{rename_i i xv hi F;have hi:=hT _ _ hi;split at h;{rename_i fs O;split at h;{rename_i ft off hf;split at h;{rename_i fi hfi;split at h;{cases h};{rename_i Z;have Z:fi.size≠0:=λe=>Z (beq_eq.2 e);split at h;{rename_i s o';simp only [Q.ret.injEq] at h;obtain ⟨rfl,rfl⟩:=h;have:=zv (w:=w) hT hi O hf hfi Z ⟨β s,o',none⟩;rw [gN] at this;refine ⟨?_,tm (E.live F) (λs Z=>by simpa [SV.ids,C.ids] using Z)⟩;simp only [execOp,hop,E.eval F];exact fk this};{rename_i p;simp only [Q.ret.injEq] at h;obtain ⟨rfl,rfl⟩:=h;obtain ⟨ad,rfl⟩:=Qd6.1 (hsc (p.isSome=true) ψ);have:=zv (w:=w) hT hi O hf hfi Z ad;refine ⟨?_,cw rfl⟩;simp only [execOp,hop,E.eval F];exact fk this};{cases h}}};{cases h}};{cases h}};{cases h}};{cases h});(case h_20 op t x f hop=>split at h;{rename_i i cs hi F;have hi:=hT _ _ hi;split at h;{rename_i fs O;split at h;{rename_i ft off hf;split at h;{rename_i fi hfi;have ⟨g1,g2⟩:=QY (P:=P) (w:=w) (β:=β) hT hi O hf hfi (cs:=cs);have hagg:xH fi.k=true->Q.ret [] (.agg ((cs.drop off).take fi.size))=.ret sc v->(execOp a.eval o).run P w=.ok (.value (v.den β)) w/\ď st v:=by{intro hk' h;simp only [Q.ret.injEq] at h;obtain ⟨rfl,rfl⟩:=h;refine ⟨?_,tm (E.live F) λs Z=>?_⟩;{simp only [execOp,hop,E.eval F];exact fk (g1 hk')};{have ⟨c,hc,Z⟩:=ċ.1 Z;exact vY (Qg4 (Qn4 hc)) Z}};split at h;{rename_i hk';exact hagg (by rw [hk'];rfl) h};{rename_i hk';exact hagg (by rw [hk'];rfl) h};{rename_i hk1 hk2;have hk':xH fi.k=false:=by{(cases hik:fi.k<;>first|rfl|exact Å hik (hk1 _)|exact Å hik (hk2 _ _))};split at h;{rename_i c hc;simp only [Q.ret.injEq] at h;obtain ⟨rfl,rfl⟩:=h;refine ⟨?_,tm (E.live F) λs Z=>?_⟩;{simp only [execOp,hop,E.eval F];exact fk (g2 c hk' hc)};{exact vY (ı hc) Z}};{cases h}}};{cases h}};{cases h}};{cases h}};{cases h});(case h_21 op t x ix hop=>split at h;{rename_i i xv iv hi F hix;have ⟨N,M⟩:=C6 (P:=P) (w:=w) (β:=β) hT (hT _ _ hi) h hsc;refine ⟨?_,tm (E.live F) M⟩;simp only [execOp,hop,E.eval F,E.eval hix];exact fk N};{cases h});(case h_22 op x j hop=>split at h;{rename_i xs F;split at h;{rename_i y hy;split at h;{rename_i z hz;simp only [Q.ret.injEq] at h;obtain ⟨rfl,rfl⟩:=h;have ⟨N,M⟩:=TB (β:=β) hz;refine ⟨?_,tm (E.live F) λs Z=>ċ.2 ⟨y,ı hy,M s Z⟩⟩;have:(xs.map (kG β))[j]?=some (z.den β):=by{rw [Wz5,hy];simp [N]};simp [execOp,hop,E.eval F,SV.den,Instr.extract,hy,N]};{cases h}};{cases h}};{cases h});(case h_23 op c hop=>split at h;{split at h;{split at h;{split at h;{split at h;{exact (K3 h).elim};{cases h}};{cases h}};{cases h}};{cases h}};{split at h;{exact (NN h).elim};{cases h}};{rename_i b hb hb2 hc;split at h;{rename_i xs t ts hxs hts;split at h;{rename_i i hi;have ⟨N,M⟩:=iB E _ _ hxs;have e1:c.argTypes=(t::ts).toArray:=by{apply ŀ;exact hts};have e2:c.args.map a.eval=(xs.map (SV.den β)).toArray:=by{apply ŀ;rw [Qf0];exact N};have ⟨k1,k2⟩:=Ip (P:=P) (w:=w) (β:=β) (ts:=ts) (ty:=o.type) (cs:=c.args.map λ|.const _=>true|_=>false) (hT _ _ hi) h;refine ⟨?_,cw k2⟩;simp only [execOp,hop,resolve,hc,pure_bind,invoke,e1,e2];exact k1};{cases h}};{cases h}};{cases h});(case h_24 op t x ix hop=>split at h;{rename_i i s k m hi F hix;split at h;{rename_i O;have ⟨info,d,z,N,M,h3,h4,h5,h6,h7⟩:=aM (hT _ _ hi);rw [h4] at O;obtain rfl:=zk O;simp only [Q.ret.injEq] at h;obtain ⟨rfl,rfl⟩:=h;have hb:=hsc _ (õ.2 rfl);refine ⟨?_,cw rfl⟩;have hlt:m.toNat<s.size:=ω;have e:s.data.toList.getD m.toNat 0=s[m.toNat]'hlt:=by{have:s.data.toList[m.toNat]?=some (s[m.toNat]'hlt):=by{rw [Array.getElem?_toList];exact Array.getElem?_eq_getElem (by simpa using hlt)};rw [ĕ,this];rfl};simp only [execOp,hop,E.eval F,E.eval hix,SV.den,C.den];grind [fk,run_index_string]};{cases h}};{rename_i i cs k m hi F hix;unfold oJ at h;split at h;{rename_i n e O;split at h;{rename_i ei l Kr hl;split at h;{rename_i e2 hek;split at h;{rename_i hb;rw [Ċ] at hb;simp only [Q.ret.injEq] at h;obtain ⟨rfl,rfl⟩:=h;have hm:=hsc _ (õ.2 rfl);have ⟨info,d,z,N,M,h3,h4,h5,h6,h7⟩:=aM (hT _ _ hi);rw [h4] at O;obtain rfl:=rj O;have ⟨jR,ed,ez,e1,e2,e3,e4,e5,e6,e7⟩:=aM (hT _ _ Kr);refine ⟨?_,cw rfl⟩;have b2:=beq_eq.1 hb.2;simp only [execOp,hop,E.eval F,E.eval hix];refine fk ?_;have es:m.toNat*jR.size=m.toNat:=by{rw [<-e5,(beq_eq.1 hb.1),ĝ]};simp only [Instr.index,SV.den,C.den,fB,Sem.run_bind,Result.andThen_ok,aj M,Sem.run_ite,Ä hm,aS e1,es];exact ((KY (w:=w) (β:=β) (hT _ _ Kr) cs m.toNat).2 _ (by rw [hek];rfl) (P6 hl (show m.toNat<l.length by omega)))};{cases h}};{cases h}};{cases h}};{cases h}};{cases h});(case h_25 op t x hop=>split at h;{rename_i i y hi F;have ⟨info,d,z,N,M,h3,h4,h5,h6,h7⟩:=aM (hT _ _ hi);unfold C5 at h;split at h;{cases h};{rename_i O;split at h;{rename_i lI htup;simp only [Q.ret.injEq] at h;obtain ⟨rfl,rfl⟩:=h;refine ⟨?_,cw rfl⟩;simp only [execOp,hop,E.eval F];refine fk ?_;have hd:∀ms,d≠.interface ms:=λms e=>by{rw [e] at h4;exact O h4};have e2:y.den β=y.den λ_=>0:=SV.bW λs Z=>by{rw [lI] at Z;cases Z};show (Instr.makeInterface t (y.den β)).run P w=.ok (.iface t (y.den λ_=>0)) w;rw [e2];generalize y.den (λ_=>0)=u;simp only [Instr.makeInterface,Sem.run_bind,aj M,Result.andThen_ok];(cases d<;>first|rfl|exact Å rfl (hd _))};{cases h}}};{cases h});(case h_26=>cases h)
end
section
variable {P:Program} {T:dW} {n:Nat} {V0:Ó} {bQ:Mw} {β0:Nat->Nat} {st:St} {β:Nat->Nat} {a:Act} {w:World} {V:Ó}
def RV (hT:dW.ok P T)(E:Þ n V0 bQ β0 st β a w V){o:Oper}{sc:zA Prop}{b:aY}{x:Nat->SV}(h:aT T st.bK st.boxes o.op=.new sc b x)(hsc:∀p∈sc,p):∃v,(execOp a.eval o).run P w=.ok (.value v) (w.alloc (b.obj β))/\(∀d,v=(x d).den (cJ β d w.heap.size)/\(x d).ids=[d])/\(∀s∈b.cs.ids,∃b',st.boxes s=some b'):=by have hx:∀d,SV.den (cJ β d w.heap.size) (.c (.ptr d 0))=.pointer (some ⟨w.heap.size,0,none⟩):=λd=>by{simp [SV.den,C.den,a_]};have hy:∀d m c,SV.den (cJ β d w.heap.size) (.c (.mS d 0 m c))=.slice (some ⟨w.heap.size,0,none⟩) m c:=λd m c=>by{simp [SV.den,C.den,a_]};unfold aT at h;split at h;(case h_1=>split at h<;>cases h);(case h_2=>split at h<;>cases h);(case h_3=>split at h<;>(try split at h)<;>cases h);(case h_4 op t hop=>split at h;{rename_i i hi;have ⟨info,d,z,Z,h2,h3,h4,h5,h6,h7⟩:=aM (hT _ _ hi);simp only [Q.new.injEq] at h;obtain ⟨rfl,rfl,rfl⟩:=h;have ⟨z1,z2⟩:=fO (β:=β) h7;refine ⟨.pointer (some ⟨w.heap.size,0,none⟩),?_,λd=>⟨(hx d).symm,rfl⟩,λs u=>by rw [show è.ids (.lit i.zero)=[] from z2] at u;cases u⟩;simp only [execOp,hop];refine fk ?_;simp only [Instr.alloc,Sem.run_bind,kX Z h3,Result.andThen_ok,newVar,newRow,run_newObj,Sem.run_pure,aY.obj,è.den,z1];rfl};{cases h});(case h_5 op t y hop=>split at h;{rename_i v hv;split at h;{cases h};{rename_i hnt;simp only [Q.new.injEq] at h;obtain ⟨rfl,rfl,rfl⟩:=h;obtain ⟨c1,-⟩:=SV.xT (β:=β) hnt hsc;refine ⟨.pointer (some ⟨w.heap.size,0,none⟩),?_,λd=>⟨(hx d).symm,rfl⟩,λs u=>E.live hv s (SV.xU hnt u)⟩;simp only [execOp,hop,E.eval hv];refine fk ?_;simp only [Instr.box,newVar,newRow,Sem.run_bind,run_newObj,Result.andThen_ok,Sem.run_pure,c1,aY.obj,è.den];rfl}};{cases h});(case h_6=>split at h;{grind};{cases h});(case h_7 op t len parts hop=>split at h;{rename_i i ps hi hps;split at h;{rename_i e hk;split at h;{rename_i F Kr;split at h;{rename_i M;simp only [Ċ,beq_eq,Qd4] at M;obtain ⟨⟨c1,c2⟩,N⟩:=M;have N:F.size≠0:=λe=>by{rw [e] at N;cases N};split at h;{rename_i cs hcs;simp only [Q.new.injEq] at h;obtain ⟨rfl,rfl,rfl⟩:=h;have ⟨Z,h2⟩:=BG hT E (hT _ _ hi) hk hps Kr (ő c1) c2 N hcs hsc;exact ⟨_,by simp only [execOp,hop];exact fk Z,λd=>⟨(hy d _ _).symm,rfl⟩,h2⟩};{cases h}};{cases h}};{cases h}};{cases h}};{cases h});(case h_8=>split at h;{unfold lS at h;grind};{cases h});(case h_9=>split at h;{unfold ju at h;grind};{cases h});(case h_10=>split at h<;>cases h);(case h_11=>split at h;{have key:∀{op xt} {p q:C},Io T op xt p q≠.new sc b x:=by{intro op xt p q h;have hi:∀k m m',rA op k m m'≠.new sc b x:=λk m m' h=>by{cases op<;>cases h};have hn:∀neg k,Iq neg k p q≠.new sc b x:=λneg k h=>by{unfold Iq at h;split at h<;>(try split at h)<;>(try split at h)<;>cases h};unfold Io at h;grind};grind};{cases h});(case h_12=>split at h<;>cases h);(case h_13=>split at h<;>cases h);(case h_14=>split at h<;>cases h);(case h_15=>split at h;{split at h<;>cases h};{cases h});(case h_16=>split at h<;>(try split at h)<;>(try split at h)<;>cases h);(case h_17 op t l c hop=>split at h;{rename_i i lv cv hi hl M;unfold Gz at h;split at h;{rename_i e hk;split at h;{rename_i F Kr;split at h;{rename_i k1 m1 k2 m2;split at h;{rename_i zs hzs;split at h;{cases h};{rename_i hcond;simp only [Qf6,beq_eq,Qd4,not_or] at hcond;obtain ⟨⟨g1,g2⟩,O⟩:=hcond;simp only [Q.new.injEq] at h;obtain ⟨rfl,rfl,rfl⟩:=h;have O:F.size=zs.length:=by{rcases hb:Nat.beq F.size zs.length with _|_;{rw [hb] at O;exact Å rfl O};{exact beq_eq.1 hb}};refine ⟨_,?_,λd=>⟨(hy d _ _).symm,rfl⟩,λs u=>by simp [è.ids] at u⟩;simp only [execOp,hop,E.eval hl,E.eval M];exact fk (EH (P:=P) (w:=w) (β:=β) hT (hT _ _ hi) hk Kr (k1:=k1) (k2:=k2) (l:=m1) (c:=m2) g1 g2 hzs O (hsc _ ψ) (hsc _ ψ) (hsc _ ψ))}};{cases h}};{cases h}};{cases h}};{cases h}};{cases h});(case h_18=>split at h;{split at h;{split at h;{unfold yE at h;split at h<;>(try split at h)<;>(try split at h)<;>cases h};{cases h}};{cases h}};{cases h});(case h_19=>split at h;{grind};{cases h});(case h_20=>split at h;{split at h<;>grind};{cases h});(case h_21=>split at h;{unfold jt at h;grind};{cases h});(case h_22=>split at h<;>(try split at h)<;>(try split at h)<;>cases h);(case h_23=>split at h;{split at h;{split at h;{split at h;{split at h;{unfold cY at h;grind};{cases h}};{cases h}};{cases h}};{cases h}};{grind [pW]};{split at h;{split at h;{unfold oI at h;grind};{cases h}};{cases h}};{cases h});(case h_24=>split at h;{split at h<;>cases h};{unfold oJ at h;grind};{cases h});(case h_25=>split at h;{unfold C5 at h;split at h;{cases h};{split at h<;>cases h}};{cases h});(case h_26=>cases h)
def er:Q->Nat
 | .fail=>0|.ret ..=>1|.new ..=>2|.Ao ..=>3|.rd ..=>4|.ug ..=>5|.app ..=>6|.yy ..=>6
def vk {op:BinOp}{k:IntKind}{x y:Int}:er (rA op k x y)<=1:=by cases op<;>exact Ù _
def Lu {neg:ut}{k:TK}{x y:C}:er (Iq neg k x y)<=1:=by
 unfold Iq;split<;>(try split)<;>(try split)<;>first|exact Ù _|exact ã _
def ui {i:TI}{cs:zA C}{k:Int}:er (oJ T i cs k)<=1:=by unfold oJ;split;{split;{split;{(split<;>first|exact Ù _|exact ã _)};{exact ã _}};{exact ã _}};{exact ã _}
def wV {op:BinOp}{u:TypeId}{x y:C}:er (Io T op u x y)<=1:=by unfold Io;split;{split;{split;{split;{exact vk};{exact vk};{split;{exact vk};{exact ã _}}};{exact ã _}};{split;{(split<;>first|exact Ù _|exact ã _)};{exact ã _}};{split;{exact Lu};{exact Lu};{exact ã _}}};{exact ã _}
def Dv {sz:Nat}{x:SV}{lo hi mx:Option SV}:er (yE sz x lo hi mx)<=1:=by
 unfold yE;split<;>(try split)<;>(try split)<;>first|exact Ù _|exact ã _
def rY {i:TI}{x u:SV}:er (jt T i x u)<=1:=by
 unfold jt;split<;>(try split)<;>(try split)<;>(try split)<;>first|exact Ù _|exact ã _
def wW {b:Builtin}{k:TK}{xs:zA SV}:er (oI b k xs)<=1:=by
 unfold oI;split<;>(try split)<;>(try split)<;>(try split)<;>first|exact Ù _|exact ã _
def R_ {i:TI}{l c:SV}:er (Gz T i l c)=0\/er (Gz T i l c)=2:=by
 unfold Gz;split<;>(try split)<;>(try split)<;>(try split)<;>(try split)<;>first|exact .inl rfl|exact .inr rfl
theorem Dw {bx i a x}:er (ju bx i a x)=0\/er (ju bx i a x)=3:=by
 unfold ju;split<;>(try split)<;>(try split)<;>(try split)<;>(try split)<;>first|exact .inl rfl|exact .inr rfl
theorem GY {bx i x}:er (lS bx i x)=0\/er (lS bx i x)=1\/er (lS bx i x)=4\/er (lS bx i x)=5:=by
 unfold lS;split<;>(try split)<;>(try split)<;>(try split)<;>first|exact .inl rfl|exact .inr (.inl rfl)|exact .inr (.inr (.inl rfl))|exact .inr (.inr (.inr rfl))
def rX {bx:Nat->Option aY}{e:TypeId}{u:TI}{b x:SV}:er (cY bx e u b x)=0\/er (cY bx e u b x)=6:=by unfold cY;split;{exact .inl rfl};{split;{exact .inl rfl};{dsimp only;split;{exact .inl rfl};{(split<;>(try split)<;>(try split)<;>first|exact .inl rfl|exact .inr rfl)}}}
theorem Du {bx t x}:er (pV T bx t x)=0\/er (pV T bx t x)=3:=by
 rcases pW (T:=T) (bx:=bx) (t:=t) (x:=x) with e|⟨_,_,_,e⟩<;>rw [e]<;>first|exact .inl rfl|exact .inr rfl
def iC {ρ:Operand->Option SV}{bx:Nat->Option aY}{op:Op}:(er (aT T ρ bx op)=3->((∃t a x,op=.store t a x)\/∃c,op=.call c/\c.callee=.builtin .clear))/\(er (aT T ρ bx op)=4\/er (aT T ρ bx op)=5->∃t a,op=.load t a)/\(er (aT T ρ bx op)=6->∃c,op=.call c/\c.callee=.builtin .append):=by
 have u:∀{q:Q},er q<=1->(er q=3->((∃t a x,op=.store t a x)\/∃c,op=.call c/\c.callee=.builtin .clear))/\(er q=4\/er q=5->∃t a,op=.load t a)/\(er q=6->∃c,op=.call c/\c.callee=.builtin .append):=χ
 have y:∀{q:Q},er q=0\/er q=2->(er q=3->((∃t a x,op=.store t a x)\/∃c,op=.call c/\c.callee=.builtin .clear))/\(er q=4\/er q=5->∃t a,op=.load t a)/\(er q=6->∃c,op=.call c/\c.callee=.builtin .append):=by intro q h;exact ⟨ω,ω,ω⟩
 unfold aT;split
 case h_8=>
  split
  ·grind [GY]
  ·exact u (ã _)
 case h_9=>
  split
  ·grind [Dw]
  ·exact u (ã _)
 case h_11=>
  split
  ·split;{split;{exact u wV};{exact u (ã _)}};{exact u wV}
  ·exact u (ã _)
 case h_17=>
  split
  ·exact y R_
  ·exact u (ã _)
 case h_18=>
  split
  ·split;{split;{exact u Dv};{exact u (ã _)}};{exact u (ã _)}
  ·exact u (ã _)
 case h_21=>
  split
  ·exact u rY
  ·exact u (ã _)
 case h_23 c=>
  split
  ·rename_i E;refine ⟨λh=>?_,λh=>?_,λ_=>⟨c,rfl,E⟩⟩;{exfalso;(split at h<;>(try split at h)<;>(try split at h)<;>(try split at h)<;>first|(rcases rX (bx:=bx) with z|z<;>(rw [z] at h;cases h))|cases h)};{exfalso;(split at h<;>(try split at h)<;>(try split at h)<;>(try split at h)<;>first|(rcases rX (bx:=bx) with z|z<;>(rw [z] at h;rcases h with h|h<;>cases h))|(rcases h with h|h<;>cases h))}
  ·rename_i E;split;{grind [Du]};{exact u (ã _)}
  ·split;{split;{exact u wW};{exact u (ã _)}};{exact u (ã _)}
  ·exact u (ã _)
 case h_24=>
  split
  ·split;{exact u (Ù _)};{exact u (ã _)}
  ·exact u ui
  ·exact u (ã _)
 case h_25=>
  split
  ·unfold C5;split;{exact u (ã _)};{split;{exact u (Ù _)};{exact u (ã _)}}
  ·exact u (ã _)
 all_goals
  first
  | exact u (ã _)
  | ((repeat' split)<;>first|exact u (ã _)|exact u (Ù _)|exact y (.inr rfl))
def NO (hT:dW.ok P T)(hM:Þ n V0 bQ β0 st β a w V){t:TypeId}{x:SV}{sc:zA Prop}{s:Nat}{b:aY}(h:pV T st.boxes t x=.Ao sc s b)(hsc:∀p∈sc,p)(ty:TypeId)(cs:Array ut):∃w',(builtin .clear #[t] ty cs #[x.den β]).run P w=.ok (.value (.tuple #[])) w'/\Þ n V0 bQ β0 (st.box s b) β a w' V:=by unfold pV at h;split at h;{rename_i i M;split at h;{rename_i e F;split at h;{rename_i r N;split at h;{rename_i q g o k c O;split at h;{rename_i j G H;split at h;{cases h};{rename_i I;simp only [Q.Ao.injEq] at h;obtain ⟨rfl,rfl,rfl⟩:=h;simp only [Qf6,beq_eq,Ł,not_or,Bool.not_eq_false,Ħ] at I;obtain ⟨⟨c1,J⟩,c3⟩:=I;have ⟨info,d,z,h1,K,h3,R,h5,h6,h7⟩:=aM (hT _ _ M);have ⟨S,ed,A,U,e2,W,e4,X,e6,Y⟩:=aM (hT _ _ N);rw [R] at F;obtain rfl:=bo F;have ⟨L,z2⟩:=fO (β:=β) Y;obtain ⟨d1,-⟩:=gj (β:=β) O;have Z:A.cells.size=S.size:=by{rw [<-L,d1];simp [<-X,J]};have a0:A.cells.toList=q:=by{rw [<-d1,<-L]};have hle:o+k*r.size<=j.length:=hsc _ ψ;have u:∀m,(tQ m q).length=m*r.size:=λm=>by{rw [mV,J];simp [Qr6]};have B:∀v∈tQ k q,v.oneCell'=true:=λv D=>by{rw [mV] at D;have ⟨l,hl,D⟩:=List.mem_flatten.1 D;grind};have f:=hM.row H dJ;have key:=run_storeCells_at (P:=P) (β g) o G (tQ k q) 0 j.toArray w f (by simpa [u] using hle) B;simp only [Ę,u] at key;refine ⟨w.setRow (β g) (j.take o++tQ k q++j.drop (o+k*r.size)).toArray,?_,hM.Ao H dJ (by intro s' E;simp [è.ids] at E) (by rw [lV f];rfl) rfl rfl rfl⟩;have y:(Builtin.clear_ #[t] ty #[SV.den β (.c (.mS g o k c))]).run P w=.ok (.tuple #[]) (w.setRow (β g) (j.take o++tQ k q++j.drop (o+k*r.size)).toArray):=by{(cases k with|zero=>{have e0:(j.take o++tQ 0 q++j.drop (o+0*r.size)).toArray=j.toArray:=by{rw [mV];simp};rw [e0,setRow_self w (β g) j.toArray G (0,0) f];simp [Builtin.clear_,aj K,SV.den,C.den]}|succ k=>{have ek:(Builtin.zeroCells A.cells (k+1)).toList=tQ (k+1) q:=by{grind [Builtin.zeroCells,xK,mV]};simp only [ě] at key ⊢;simp [Builtin.clear_,aj K,SV.den,C.den,(kX U W w),ek,key]})};simp only [builtin];exact fk y}};{cases h}};{cases h}};{cases h}};{cases h}};{cases h}
def RY (hT:dW.ok P T)(F:Þ n V0 bQ β0 st β a w V){o:Oper}{sc:zA Prop}{s:Nat}{b:aY}(h:aT T st.bK st.boxes o.op=.Ao sc s b)(hsc:∀p∈sc,p):∃M w',(execOp a.eval o).run P w=.ok M w'/\(M=.skip\/∃v,M=.value v)/\Þ n V0 bQ β0 (st.box s b) β a w' V:=by rcases (iC (T:=T) (ρ:=st.bK) (bx:=st.boxes) (op:=o.op)).1 (by rw [h];rfl) with ⟨t,y,x,d⟩|⟨c,d,k⟩;{rw [d] at h;simp only [aT] at h;split at h;{rename_i i C D l m e;have ⟨w',f,q⟩:=NQ F (hT _ _ l) (F.live e) h hsc;refine ⟨.skip,w',?_,.inl rfl,q⟩;simp only [execOp,d,F.eval m,F.eval e];exact run_u f};{cases h}};{obtain ⟨E,args,r⟩:=c;dsimp only at k;subst k;rw [d] at h;simp only [aT] at h;split at h;{rename_i x t g j;obtain ⟨f,-⟩:=iB F _ _ g;have u:r=#[t]:=by{apply ŀ;exact j};have z:args.map a.eval=#[x.den β]:=by{apply ŀ;rw [Qf0];exact f};have ⟨w',A,B⟩:=NO hT F h hsc o.type (args.map λ|.const _=>true|_=>false);refine ⟨.value (.tuple #[]),w',?_,.inr ⟨_,rfl⟩,B⟩;simp only [execOp,d,resolve,pure_bind,invoke,u,z];exact A};{cases h}}
def Vh (hT:dW.ok P T)(u:Þ n V0 bQ β0 st β a w V){o:Oper}{p:OA}{sh:Bv}(h:aT T st.bK st.boxes o.op=.rd p sh){x:SV}{k:Prop}(z:x.ids=[])(E:(∃c,x=.c c/\∃s',sh=.one s')\/∃cs l,x=.agg cs/\sh=.agg l/\cs.length=l.length)(F:V.Yk p x k):(execOp a.eval o).run P w=.ok (.value (x.den β)) w/\k:=by obtain ⟨t,y,b⟩:=(iC (T:=T) (ρ:=st.bK) (bx:=st.boxes) (op:=o.op)).2.1 (by rw [h];exact .inl rfl);rw [b] at h;simp only [aT] at h;split at h;{rename_i i m d e;unfold lS at h;split at h;{grind};{split at h;{rename_i f;simp only [Q.rd.injEq] at h;obtain ⟨rfl,rfl⟩:=h;have ⟨g,j⟩:=rd_run u (hT _ _ d) (beq_eq.1 f) z E F;refine ⟨?_,j⟩;simp only [execOp,b,u.eval e];exact fk g};{cases h}};{cases h}};{cases h}
def K4 (hT:dW.ok P T)(u:Þ n V0 bQ β0 st β a w V){o:Oper}{vs:zA um}{of size:Nat}{sh:Bv}(h:aT T st.bK st.boxes o.op=.ug vs of size sh){x:SV}(z:x.ids=[])(E:(∃c,x=.c c/\∃s',sh=.one s')\/∃cs l,x=.agg cs/\sh=.agg l/\cs.length=l.length)(F:Yu vs of size x):(execOp a.eval o).run P w=.ok (.value (x.den β)) w:=by obtain ⟨t,y,b⟩:=(iC (T:=T) (ρ:=st.bK) (bx:=st.boxes) (op:=o.op)).2.1 (by rw [h];exact .inr rfl);rw [b] at h;simp only [aT] at h;split at h;{rename_i i m f g;unfold lS at h;split at h;{split at h;{grind};{rename_i d;simp only [Q.ug.injEq] at h;obtain ⟨rfl,rfl,rfl,rfl⟩:=h;have j:=GA u (hT _ _ f) (.inl d) z E F;simp only [execOp,b,u.eval g];exact fk j};{rename_i d;split at h;{cases h};{rename_i k;simp only [Q.ug.injEq] at h;obtain ⟨rfl,rfl,rfl,rfl⟩:=h;simp only [execOp,b,u.eval g];exact fk (GA u (hT _ _ f) (.inr ⟨d,λe=>k (by rw [e];rfl)⟩) z E F)}};{cases h}};{split at h<;>cases h};{cases h}};{cases h}
end
end Go.Eng
