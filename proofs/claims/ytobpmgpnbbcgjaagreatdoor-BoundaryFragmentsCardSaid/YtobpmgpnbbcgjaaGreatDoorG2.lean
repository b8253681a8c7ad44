import Derived.Test.YtobpmgpnbbcgjaaGreatDoorG1
set_option linter.all false
open Go.IntKind (i64 u64 u32)
namespace Go.Eng
section
variable {P:Program} {T:dT} {n:Nat} {V0:Ó} {bQ:KZ} {β0:Nat->Nat} {st:St} {β:Nat->Nat} {a:Act} {w:World} {V:Ó}
theorem gG (b o k:Nat):(⟨b,o,none⟩:Addr).add k=⟨b,o+k,none⟩:=by unfold Addr.add;split;{rename_i h;subst h;rfl};{rfl}
theorem cell_of_row {g o:Nat}{vs:zA un}{ty:TypeId}(h:w.heap[g]?=some (.cells vs.toArray ty (0,0))):w.cell? ⟨g,o,none⟩=vs[o]?:=by simp [World.cell?,h]
theorem Jp {g o m:Nat}{vs:zA un}{ty t:TypeId}{info:TypeInfo}{d:TypeDesc}(h:w.heap[g]?=some (.cells vs.toArray ty (0,0)))(u:P.info? t=some info)(y:P.underlying t=some d)(hm:info.size=m)(z:wK (mT d)=true)(D:o+m<=vs.length):(loadVar t ⟨g,o,none⟩).run P w=.ok (.agg ((vs.drop o).take m).toArray) w:=by
 subst hm
 have key:=run_loadCells_list (P:=P) (w:=w) ⟨g,o,none⟩ ((vs.drop o).take info.size) (by
  intro j v a;rw [gG,cell_of_row h];rw [Ħ] at a;split at a
  ·rw [Qm4] at a;exact a
  ·cases a)
 rw [è,ī,ğ ω] at key;simp only [loadVar,Sem.run_bind,ja y,Result.andThen_ok,z,Ï,aR u,key,Sem.run_pure]
def Fu {g o:Nat}{vs:zA un}{ty t:TypeId}{d:TypeDesc}{v:un}(h:w.heap[g]?=some (.cells vs.toArray ty (0,0)))(u:P.underlying t=some d)(y:wK (mT d)=false)(z:vs[o]?=some v):(loadVar t ⟨g,o,none⟩).run P w=.ok v w:=by simp only [loadVar,Sem.run_bind,ja u,Result.andThen_ok,y,ŕ,Ð,run_load,cell_of_row h,z]
def ß.row (u:ß n V0 bQ β0 st β a w V){s:Nat}{b:aZ}(y:st.boxes s=some b)(lb:b.live):w.heap[β s]?=some (.cells (b.cs.den β).toArray b.ty (0,0)):=u.boxes s b y lb
def vj {cs:zA C}{c:C}{s:Nat}(u:c∈cs)(y:s∈c.ids):s∈cs.flatMap C.ids:=ĕ.2 ⟨c,u,y⟩
def FB (F:ß n V0 bQ β0 st β a w V){t:TypeId}{i:TI}(hi:oK P t=some i){x:SV}{sc:zA Prop}{v:SV}(h:lG st.boxes i x=.ret sc v):(Instr.loadAt t (x.den β)).run P w=.ok (v.den β) w/\Ď st v:=by
 obtain ⟨info,d,z,B,y,D,A,E,-⟩:=aL hi;unfold lG at h;split at h
 ·rename_i b o;split at h
  ·rename_i cs ty r;have f:=F.row r dG;have e:=F.Du b _ r;simp only [ç.den] at f
   have g:wK i.k=true->(if Nat.ble (o+i.size) cs.length then Q.ret [] (.agg ((cs.drop o).take i.size)) else .fail)=.ret sc v ->
     (Instr.loadAt t (SV.den β (.c (.ptr b o)))).run P w=.ok (v.den β) w/\Ď st v:=by
    intro j h;split at h
    ·rename_i u;have u:=œ u;simp only [Q.ret.injEq] at h;obtain ⟨-,rfl⟩:=h;refine ⟨?_,?_⟩;{grind [Jp,Instr.loadAt,Instr.sureAddr,SV.den,C.den,List.map_take,List.map_drop]};{intro s l;have ⟨c,m,l⟩:=ĕ.1 l;exact e s (vj (Qg2 (Qb3 m)) l)}
    ·cases h
   split at h
   ·rename_i j;exact g (by rw [j];rfl) h
   ·rename_i j;exact g (by rw [j];rfl) h
   ·rename_i p q;have j:wK i.k=false:=by{(cases hik:i.k<;>first|rfl|exact Å hik (p _)|exact Å hik (q _ _))};split at h;{rename_i c m;simp only [Q.ret.injEq] at h;obtain ⟨-,rfl⟩:=h;refine ⟨?_,?_⟩;{have:=Fu (t:=t) (o:=o) (v:=c.den β) f y (A▸j) (by simp [m]);grind [Instr.loadAt,Instr.sureAddr,SV.den,C.den]};{intro s l;exact e s (vj (Qb4 m) l)}};{cases h}
  ·cases h
  ·split at h<;>cases h
  ·cases h
 ·split at h<;>cases h
 ·cases h
def Dq.fk:∀(s:Dq) {K:C->Prop},s.ex K->∃c,c.ids=[]/\K c
 | .int _,_,⟨_,h⟩=>⟨_,rfl,h⟩
 | .bool,_,⟨_,h⟩=>⟨_,rfl,h⟩
 | .slice,_,⟨_,_,_,h⟩=>⟨_,rfl,h⟩
 | .ptr,_,⟨_,h⟩=>⟨_,rfl,h⟩
 | .str,_,⟨_,h⟩=>⟨_,rfl,h⟩
 | .any,_,⟨_,h⟩=>⟨_,rfl,h⟩
def vi:∀(l:zA Dq) {K:zA C->Prop},YF l K->∃cs,cs.flatMap C.ids=[]/\cs.length=l.length/\K cs
 | [],_,h=>⟨[],rfl,rfl,h⟩
 | s::r,K,h=>by
  have ⟨c,y,u⟩:=Dq.fk s h;have ⟨cs,a,b,d⟩:=vi r u;grind
def Ar.fk:∀(s:Ar) {K:SV->Prop},s.ex K->∃x,x.ids=[]/\((∃c,x=.c c/\∃s',s=.one s')\/∃cs l,x=.agg cs/\s=.agg l/\cs.length=l.length)/\K x
 | .one s,K,h=>by have ⟨c,y,u⟩:=Dq.fk s h;exact ⟨.c c,y,.inl ⟨c,rfl,s,rfl⟩,u⟩
 | .agg l,K,h=>by have ⟨cs,a,b,u⟩:=vi l h;exact ⟨.agg cs,a,.inr ⟨cs,l,rfl,rfl,b⟩,u⟩
def Bj:∀(l:zA Ar) {K:zA (md×zA C)->Prop},exT l K->∃xs,(xs.flatMap λx=>x.2.flatMap C.ids)=[]/\K xs
 | [],_,h=>⟨[],rfl,h⟩
 | .one s::r,K,h=>by
  have ⟨c,y,u⟩:=Dq.fk s h;have ⟨xs,a,b⟩:=Bj r u;grind
 | .agg l::r,K,h=>by
  obtain ⟨cs,y,-,u⟩:=vi l h;have ⟨xs,a,b⟩:=Bj r u;grind
def Sh.fk:∀(s:Sh) {K:SV->Prop},s.ex K->∃x,x.ids=[]/\K x
 | .val s,K,h=>by obtain ⟨x,u,-,y⟩:=Ar.fk s h;exact ⟨x,u,y⟩
 | .wG l,K,h=>by have ⟨xs,u,y⟩:=Bj l h;exact ⟨.wG xs,u,y⟩
 | .none,K,h=>⟨.wG [],rfl,h⟩
theorem kg {x:SV}(h:x.ids=[])(β β':Nat->Nat):x.den β=x.den β':=SV.bX λs a=>by rw [h] at a;cases a
def cu {x:SV}(h:x.ids=[]):Ď st x:=λs a=>by rw [h] at a;cases a
def JT:∀(cs:zA C) (p:Addr) (i:Nat) {k:Prop},V.Wq p i cs k->(∀j c,cs[j]?=some c->V.at (p.add (i+j)) (c.den λ_=>0))/\k
 | [],_,_,_,h=>⟨λj c u=>by simp at u,h⟩
 | c::r,p,i,k,⟨z,y⟩=>by
  have ⟨D,E⟩:=JT r p (i+1) y;grind
theorem ß.atV (u:ß n V0 bQ β0 st β a w V){p:Addr}{v:un}(h:V.at p v):w.cell? p=some v:=by obtain ⟨d,b⟩:=h;unfold World.cell? at b ⊢;split at b;{rename_i c e f g;rw [(u.sw p.block _ ⟨d,g⟩).1];exact b};{cases b}
def Oj {i:TI}{l:zA Dq}(h:nQ i=.agg l):wK i.k=true/\l.length=i.zero.length:=by unfold nQ at h;split at h;{rename_i a;simp only [Ar.agg.injEq] at h;subst h;exact ⟨by rw [a];rfl,ψ⟩};{rename_i a;simp only [Ar.agg.injEq] at h;subst h;exact ⟨by rw [a];rfl,ψ⟩};{split at h<;>cases h}
def Ok {i:TI}{s:Dq}(h:nQ i=.one s):wK i.k=false:=by unfold nQ at h;split at h;{cases h};{cases h};{rename_i a b;(cases hik:i.k<;>first|rfl|exact Å hik (a _)|exact Å hik (b _ _))}
def ZK (O:ß n V0 bQ β0 st β a w V){t:TypeId}{i:TI}(hi:oK P t=some i)(hz:i.zero.length=i.size){p:OA}{x:SV}{k:Prop}(Z:x.ids=[])(M:(∃c,x=.c c/\∃s',nQ i=.one s')\/∃cs l,x=.agg cs/\nQ i=.agg l/\cs.length=l.length)(h:V.Wp p x k):(Instr.loadAt t (.pointer p)).run P w=.ok (x.den β) w/\k:=by
 obtain ⟨info,d,z,r,o,F,q,u,-⟩:=aL hi;rcases M with ⟨c,rfl,s,M⟩|⟨cs,l,rfl,M,y⟩
 ·obtain ⟨⟨f,rfl,g⟩,A⟩:=h;have b:=Ok M;rw [q] at b;refine ⟨?_,A⟩;simp only [Instr.loadAt,Instr.sureAddr,Sem.run_bind,Sem.run_pure,Result.andThen_ok,loadVar,ja o,b,ŕ,Ð,run_load,O.atV g];rw [kg Z β λ_=>0];rfl
 ·obtain ⟨f,rfl,B⟩:=h;have ⟨b,m⟩:=Oj M;rw [q] at b;have ⟨D,E⟩:=JT cs f 0 B;refine ⟨?_,E⟩
  have key:=run_loadCells_list (P:=P) (w:=w) f (cs.map (C.den λ_=>0)) (by
   intro j v e;rw [Qt0] at e
   cases N:cs[j]? with
   | none=>rw [N] at e;cases e
   | some c=>
    rw [N] at e;simp only [Ww2,ÿ] at e;subst e;have:=O.atV (D j c N);simpa using this)
  rw [ĉ,y,m,hz,u] at key;simp only [Instr.loadAt,Instr.sureAddr,Sem.run_bind,Sem.run_pure,Result.andThen_ok,loadVar,ja o,b,Ï,aR r,key];rw [kg Z β λ_=>0];rfl
def FD (F:ß n V0 bQ β0 st β a w V){t:TypeId}{i:TI}(hi:oK P t=some i){b o:Nat}{vs:zA un}{ty:TypeId}(E:st.boxes b=some ⟨.row vs,ty⟩\/(st.boxes b=some ⟨.aB vs,ty⟩/\i.size≠0)){x:SV}(M:x.ids=[])(D:(∃c,x=.c c/\∃s',nQ i=.one s')\/∃cs l,x=.agg cs/\nQ i=.agg l/\cs.length=l.length)(h:Wy vs o i.size x):(Instr.loadAt t (SV.den β (.c (.ptr b o)))).run P w=.ok (x.den β) w:=by obtain ⟨info,d,z,p,j,A,k,q,-⟩:=aL hi;have g:w.heap[β b]?=some (.cells vs.toArray ty (0,0)):=by{rcases E with E|⟨E,B⟩;{exact F.row E dH};{refine F.row E (fW λe=>?_);subst e;rcases D with ⟨c,rfl,s,D⟩|⟨cs,l,rfl,D,r⟩;{simp [Wy] at h};{have:=h.1;simp at this;omega}}};rcases D with ⟨c,rfl,s,D⟩|⟨cs,l,rfl,D,r⟩;{have f:=Ok D;rw [k] at f;have:=Fu (t:=t) (o:=o) g j f h;rw [show SV.den β (.c c)=C.den (λ_=>0) c from kg (x:=.c c) M β _];show (Instr.loadAt t (.pointer (some ⟨β b,o,none⟩))).run P w=_;grind [Instr.loadAt,Instr.sureAddr]};{have ⟨f,u⟩:=Oj D;rw [k] at f;obtain ⟨v,y⟩:=h;have:=Jp (t:=t) (o:=o) (m:=i.size) g p j q.symm f v;simp only [Instr.loadAt,Instr.sureAddr,C.den,SV.den,Sem.run_bind,Sem.run_pure,Result.andThen_ok,this,y];have:=kg (x:=.agg cs) M β λ_=>0;grind [SV.den]}
def ZE {c:C}(h:∀p∈gN c,p):(c.den β).oneCell'=true:=by (cases c with|v x=>{(cases x<;>first|rfl|exact (h False (by simp [gN])).elim)}|w x=>{exact h (x.oneCell'=true) (by simp [gN])}|_=>rfl)
def O6 {v:un}(h:v.oneCell'=true):v.cells=#[v]:=by cases v<;>first|rfl|simp [Value.oneCell'] at h
def SV.wZ {x:SV}(u:x.Bw=false)(h:∀p∈x.gN,p):(x.den β).cells=(x.cells.map (C.den β)).toArray/\∀v∈x.cells.map (C.den β),v.oneCell'=true:=by have b:∀c∈x.cells,(c.den β).oneCell'=true:=λc a=>ZE λp d=>h p (ĕ.2 ⟨c,a,d⟩);refine ⟨?_,λv e=>by obtain ⟨c,a,rfl⟩:=ă.1 e;exact b c a⟩;(cases x with|c c=>{exact O6 (b c (by simp [SV.cells]))}|agg cs=>rfl|wG xs=>{cases u})
def lJ {g:Nat}{old cs:Array un}{ty:TypeId}(h:w.heap[g]?=some (.cells old ty (0,0))):(w.setRow g cs).heap=w.heap.setIfInBounds g (.cells cs ty (0,0)):=by apply Array.ext_getElem?;grind [setRow_heap,setRow_other]
theorem fZ {cs:zA C}{vs:zA un}(h:mD cs=some vs):cs.map (C.den β)=vs/\cs.flatMap C.ids=[]:=by
 induction cs generalizing vs with
 | nil=>simp [mD] at h;subst h;exact ⟨rfl,rfl⟩
 | cons c r u=>
  simp only [mD] at h;split at h
  ·rename_i v ws b a;simp only [ÿ] at h;subst h;have ⟨d,e⟩:=u a;have:c.den β=v/\c.ids=[]:=by{cases c<;>simp_all [C.val?,C.den,C.ids]};grind
  ·cases h
theorem vR {cs xs:zA C}{o:Nat}:(ā cs o xs).map (C.den β)=(cs.map (C.den β)).take o++xs.map (C.den β)++(cs.map (C.den β)).drop (o+xs.length):=by simp [ā,Wy9,Wz0]
def vQ {cs xs:zA C}{o s:Nat}(h:s∈(ā cs o xs).flatMap C.ids):s∈cs.flatMap C.ids\/s∈xs.flatMap C.ids:=by have ⟨c,a,b⟩:=ĕ.1 h;simp only [ā,ø] at a;grind
def lK {vs xs:zA un}{o:Nat}(h:o+xs.length<=vs.length:=by omega):bD vs o xs=vs.take o++xs++vs.drop (o+xs.length):=by unfold bD;grind [List.set_eq_take_append_cons_drop]
def SV.w_ {x:SV}{s:Nat}(u:x.Bw=false):s∈x.cells.flatMap C.ids->s∈x.ids:=by cases x<;>grind [SV.cells,SV.ids]
def Mh (hM:ß n V0 bQ β0 st β a w V){t:TypeId}{i:TI}(hi:oK P t=some i){av xv:SV}(hx:Ď st xv){sc:zA Prop}{s:Nat}{b:aZ}(h:iY st.boxes i av xv=.zd sc s b)(hsc:∀p∈sc,p):∃w',(Instr.storeAt t (av.den β) (xv.den β)).run P w=.ok () w'/\ß n V0 bQ β0 (st.box s b) β a w' V:=by
 obtain ⟨info,d,z,U,Y,Z,h4,h5,-⟩:=aL hi;unfold iY at h;split at h
 ·rename_i g o;split at h
  ·rename_i k;simp only [Č,beq_eq,Qd3] at k;obtain ⟨hlen,y⟩:=k
   have core:∀(j:zA un)(ty:TypeId)(L:aZ),w.heap[β g]?=some (.cells j.toArray ty (0,0))->(∀p∈xv.gN,p)->o+xv.cells.length<=j.length->L.ty=ty ->
     L.cs.den β=j.take o++xv.cells.map (C.den β)++j.drop (o+xv.cells.length) ->
     ∃w',(Instr.storeAt t (SV.den β (.c (.ptr g o))) (xv.den β)).run P w=.ok () w'/\w'.heap=w.heap.setIfInBounds (β g) (L.obj β)/\w'.os=w.os/\w'.tape=w.tape/\w'.output=w.output/\w.drawn<=w'.drawn:=by
    intro j ty L f A hle N B;have ⟨D,O⟩:=SV.wZ (β:=β) y A;have key:=run_storeCells_at (P:=P) (β g) o ty (xv.cells.map (C.den β)) 0 j.toArray w f (by simpa using hle) O;refine ⟨w.setRow (β g) (j.take o++xv.cells.map (C.den β)++j.drop (o+xv.cells.length)).toArray,?_,?_⟩
    ·generalize xv.den β=v at D;show (Instr.storeAt t (.pointer (some ⟨β g,o,none⟩)) v).run P w=_;simp only [Instr.storeAt,Instr.sureAddr,Sem.run_bind,Sem.run_pure,Result.andThen_ok,storeVar,aR U,D];grind
    ·exact ⟨by rw [lJ f,aZ.obj,B,N],rfl,rfl,rfl,Ù _⟩
   split at h
   ·rename_i cs ty q;split at h;{rename_i W;simp only [Q.zd.injEq] at h;obtain ⟨rfl,rfl,rfl⟩:=h;have f:=hM.row q dG;have ⟨w',E,F,G,H,I,J⟩:=core _ _ ⟨.lit (ā cs o xv.cells),ty⟩ f hsc (by simpa [ç.den,hlen] using (œ W)) rfl (by simp only [ç.den];exact vR);refine ⟨w',E,hM.zd q dG ?_ F G H I J⟩;intro M l;rcases vQ l with R|R;{exact hM.Du _ _ q M R};{exact hx M (SV.w_ y R)}};{cases h}
   ·rename_i x ty q;split at h
    ·rename_i xs r;simp only [Q.zd.injEq] at h;obtain ⟨rfl,rfl,rfl⟩:=h;have f:=hM.row q dH;have ⟨m,S⟩:=fZ (β:=β) r;have hle:o+i.size<=x.length:=hsc _ ψ;have u:xs.length=i.size:=by rw [<-m,ĉ,hlen]
     have ⟨w',E,F,G,H,I,J⟩:=core _ _ ⟨.row (bD x o xs),ty⟩ f (λp T=>hsc p (Ļ _ T)) (by simpa [ç.den,hlen] using hle) rfl (by
      simp only [ç.den];rw [lK,m,hlen,u])
     exact ⟨w',E,hM.zd q dH (by intro M l;simp [ç.ids] at l) F G H I J⟩
    ·cases h
   ·rename_i x ty q;split at h
    ·cases h
    rename_i X;split at h
    ·rename_i xs r;simp only [Q.zd.injEq] at h;obtain ⟨rfl,rfl,rfl⟩:=h;have ⟨m,S⟩:=fZ (β:=β) r;have hle:o+i.size<=x.length:=hsc _ ψ
     have K:aZ.live ⟨.aB x,ty⟩:=fW λe=>by subst e;simp at hle;exact X (by rw [hle.2];rfl)
     have u:xs.length=i.size:=by rw [<-m,ĉ,hlen]
     have ⟨w',E,F,G,H,I,J⟩:=core _ _ ⟨.aB (bD x o xs),ty⟩ (hM.row q K) (λp T=>hsc p (Ļ _ T)) (by simpa [ç.den,hlen] using hle) rfl (by
      simp only [ç.den];rw [lK,m,hlen,u])
     exact ⟨w',E,hM.zd q K (by intro M l;simp [ç.ids] at l) F G H I J⟩
    ·cases h
   ·cases h
  ·cases h
 ·cases h
end
section
variable {P:Program} {T:dT} {n:Nat} {V0:Ó} {bQ:KZ} {β0:Nat->Nat} {st:St} {β:Nat->Nat} {a:Act} {w:World} {V:Ó}
def Pl (xs:zA un):∀(cs:Array un)(off:Nat),off+xs.length<=cs.size ->(xs.toArray.zipIdx.foldl (λcs (p:un×Nat)=>cs.setIfInBounds (off+p.2) p.1) cs)=(cs.toList.take off++xs++cs.toList.drop (off+xs.length)).toArray:=by
 have gen:∀(xs:zA un)(k:Nat)(cs:zA un)(off:Nat),off+k+xs.length<=cs.length ->
   (xs.zipIdx k).foldl (λ(cs:Array un) (p:un×Nat)=>cs.setIfInBounds (off+p.2) p.1) cs.toArray=(cs.take (off+k)++xs++cs.drop (off+k+xs.length)).toArray:=by
  intro xs
  induction xs with
  | nil=>intro k cs off _;simp
  | cons x r u=>
   intro k cs off h;simp only [Ą] at h;simp only [List.zipIdx_cons,Ő,List.setIfInBounds_toArray];rw [u (k+1) (cs.set (off+k) x) off (by simp;omega)];congr 1;have a:off+k<cs.length:=ω
   rw [Qr9,Ä a]
   have b:(cs.take (off+k)++x::cs.drop (off+k+1)).take (off+(k+1))=cs.take (off+k)++[x]:=by rw [List.take_append,Ŕ (by simp;omega),è,ğ ω,show off+(k+1)-(off+k)=1 from by omega];simp
   have c:(cs.take (off+k)++x::cs.drop (off+k+1)).drop (off+(k+1)+r.length)=cs.drop (off+k+(r.length+1)):=by rw [List.drop_append,ļ (by simp;omega),è,ğ ω,show off+(k+1)+r.length-(off+k)=r.length+1 from by omega];grind [List.drop_drop]
   rw [b,c];simp
 intro cs off h;have:=gen xs 0 cs.toList off (by simpa using h);simpa [<-Array.foldl_toList] using this
def rL {place:Nat->Option (Nat×Nat)}:∀(z:zA (Nat×SV))(cells out:zA C),te place cells z=some out ->(∀x∈z,∀v:C,v∈x.2.cells->∀p∈gN v,p) ->Instr.fill place (cells.map (C.den β)).toArray (z.map λx=>(x.1,x.2.den β))=some (out.map (C.den β)).toArray/\(∀s∈out.flatMap C.ids,s∈cells.flatMap C.ids\/∃x∈z,s∈x.2.ids)
 | [],cells,out,h,_=>by
  simp only [te,ÿ] at h;subst h;exact ⟨rfl,λs D=>.inl D⟩
 | (i,x)::r,cells,out,h,hone=>by
  simp only [te] at h;split at h
  ·cases h
  ·rename_i off size u;split at h
   ·rename_i E;simp only [Č,beq_eq,Qd3] at E;obtain ⟨⟨F,hle⟩,hnt⟩:=E;have hle:=œ hle;have hnt:x.Bw=false:=by simpa using hnt
    have e:∀p∈x.gN,p:=λp u=>by
     have ⟨v,f,u⟩:=ĕ.1 u;exact hone (i,x) ψ v f p u
    obtain ⟨b,-⟩:=SV.wZ (β:=β) hnt e;have ⟨j,g⟩:=rL r _ _ h (λy c=>hone y (Ă _ c));refine ⟨?_,?_⟩
    ·simp only [Ķ,Instr.fill,u];rw [Ã (by rw [b];simp [F];omega)];rw [b];have:=Pl (x.cells.map (C.den β)) (cells.map (C.den β)).toArray off (by simpa [F] using hle);grind [vR]
    ·intro s D;rcases g s D with d|⟨y,c,d⟩
     ·rcases vQ d with a|a
      ·exact .inl a
      ·exact .inr ⟨(i,x),ψ,SV.w_ hnt a⟩
     grind
   ·cases h
def mB (D:ß n V0 bQ β0 st β a w V):∀(l:zA (Nat×Operand))(u:zA (Nat×SV)),õ st.bJ l=some u ->(l.map λx=>(x.1,a.eval x.2))=(u.map λx=>(x.1,x.2.den β))/\∀x∈u,Ď st x.2
 | [],u,h=>by simp only [õ,ÿ] at h;subst h;exact ⟨rfl,λx z=>by cases z⟩
 | (i,o)::r,u,h=>by
  simp only [õ] at h;split at h
  ·rename_i x l z E;simp only [ÿ] at h;subst h;have ⟨F,M⟩:=mB D r l E;refine ⟨by simp [F,D.eval z],λy b=>?_⟩;rcases ê.1 b with rfl|b
   ·exact D.live z
   ·exact M y b
  ·cases h
def hZ (z:ß n V0 bQ β0 st β a w V):∀(l:zA Operand)(xs:zA SV),cN st.bJ l=some xs ->l.map a.eval=xs.map (SV.den β)/\∀x∈xs,Ď st x
 | [],xs,h=>by simp only [cN,ÿ] at h;subst h;exact ⟨rfl,λx u=>by cases u⟩
 | o::r,xs,h=>by
  simp only [cN] at h;split at h
  ·rename_i x l u D;simp only [ÿ] at h;subst h;have ⟨E,F⟩:=hZ z r l D;refine ⟨by simp [E,z.eval u],λy b=>?_⟩;rcases ê.1 b with rfl|b
   ·exact z.live u
   ·exact F y b
  ·cases h
def pj (hT:dT.ok P T):∀(gs:zA Field)(pl:zA (Nat×Nat)),gY T (gs.map λf=>(f.type,f.offset))=some pl ->∀w:World,(gs.mapM λf:Field=>do pure (f.offset,<-sizeOf f.type)).run P w=.ok pl w
 | [],pl,h,w=>by simp only [Wk1,gY,ÿ] at h;subst h;simp
 | f::r,pl,h,w=>by
  simp only [Ķ,gY] at h;split at h
  ·rename_i i l hi u;simp only [ÿ] at h;subst h;obtain ⟨info,d,z,y,E,F,M,D,-⟩:=aL (hT _ _ hi);have:=pj hT r l u w;simp only [bind_pure_comp] at this;simp [List.mapM_cons,aR y,this,D]
  ·cases h
def fP {i:TI}{z:un}(h:i.zero=z.cells.toList.map C.ofConst):(i.zero.map (C.den β)).toArray=z.cells/\i.zero.flatMap C.ids=[]:=by rw [h];exact ⟨by rw [Js],GL _⟩
def G0 {u:zA (Nat×SV)}(h:∀p∈u.flatMap (λx=>x.2.gN),p):∀x∈u,∀v:C,v∈x.2.cells->∀p∈gN v,p:=
 λx a v b p c=>h p (ĕ.2 ⟨x,a,ĕ.2 ⟨v,b,c⟩⟩)
def parts_eq {parts:Array (Nat×Operand)}{u:zA (Nat×SV)}(h:(parts.toList.map λx=>(x.1,a.eval x.2))=(u.map λx=>(x.1,x.2.den β))):(parts.map λx=>(x.1,a.eval x.2)).toList=u.map λx=>(x.1,x.2.den β):=by rw [Qd9];exact h
def Gc (hT:dT.ok P T)(F:ß n V0 bQ β0 st β a w V){t:TypeId}{i:TI}(hi:oK P t=some i){fs:zA (TypeId×Nat)}(E:i.k=.struct fs){parts:Array (Nat×Operand)}{D:zA (Nat×SV)}(M:õ st.bJ parts.toList=some D){pl:zA (Nat×Nat)}(hpl:gY T fs=some pl){cs:zA C}(N:te (λj=>pl[j]?) i.zero D=some cs)(hsc:∀p∈D.flatMap (λx=>x.2.gN),p):(Instr.build t (parts.map λx=>(x.1,a.eval x.2))).run P w=.ok (SV.den β (.agg cs)) w/\Ď st (.agg cs):=by have ⟨info,d,z,b,c,e,g,A,B,l⟩:=aL hi;have ⟨m,o⟩:=mB F _ _ M;rw [g] at E;obtain ⟨gs,rfl,rfl⟩:=k_ E;have ⟨q,r⟩:=fP (β:=β) l;have ⟨f1,f2⟩:=rL (β:=β) _ _ _ N (G0 hsc);have hm:=pj hT gs.toList pl hpl w;refine ⟨?_,?_⟩;{have u:(gs.mapM λf:Field=>do pure (f.offset,<-sizeOf f.type)).run P w=.ok pl.toArray w:=by{grind [Array.mapM_eq_mapM_toList,Sem.run_map,Result.andThen_ok]};simp only [Instr.build,Sem.run_bind,kN b e,Result.andThen_ok,ai c,u];rw [parts_eq m,<-q];have:(λj:Nat=>pl.toArray[j]?)=λj:Nat=>pl[j]?:=by{funext j;simp};rw [this,f1];rfl};{intro s v;rcases f2 s v with h|⟨x,y,h⟩;{rw [r] at h;cases h};{exact o x y s h}}
def Is (hT:dT.ok P T)(hM:ß n V0 bQ β0 st β a w V){t:TypeId}{i:TI}(hi:oK P t=some i){m:Nat}{e:TypeId}(Z:i.k=.arr m e){parts:Array (Nat×Operand)}{N:zA (Nat×SV)}(hp:õ st.bJ parts.toList=some N){O:TI}(he:aH T e=some O){cs:zA C}(hf:te (λj=>some (j*O.size,O.size)) i.zero N=some cs)(hsc:∀p∈N.flatMap (λx=>x.2.gN),p):(Instr.build t (parts.map λx=>(x.1,a.eval x.2))).run P w=.ok (SV.den β (.agg cs)) w/\Ď st (.agg cs):=by have ⟨info,d,z,b,c,f,g,D,E,l⟩:=aL hi;have ⟨F,G,H,o,I,J,K,q,L,M⟩:=aL (hT _ _ he);have ⟨r,u⟩:=mB hM _ _ hp;rw [g] at Z;obtain rfl:=qj Z;have ⟨v,y⟩:=fP (β:=β) l;have ⟨f1,f2⟩:=rL (β:=β) _ _ _ hf (G0 hsc);refine ⟨?_,?_⟩;{simp only [Instr.build,Sem.run_bind,kN b f,Result.andThen_ok,ai c,aR o];rw [parts_eq r,<-v,<-q,f1];rfl};{intro s A;rcases f2 s A with h|⟨x,B,h⟩;{rw [y] at h;cases h};{exact u x B s h}}
def PZ {α:Type}[Inhabited α](u:zA α)(m:Nat):((List.range (m*u.length)).map λj=>u.toArray[j%u.length]!)=(List.replicate m u).flatten:=by
 induction m with
 | zero=>simp
 | succ m y=>
  rw [List.replicate_succ',List.flatten_append,<-y,Ş,List.range_add,Ń];congr 1;simp only [List.flatten_cons,List.flatten_nil,þ,Qt6];apply Qg5;grind [List.getElem?_range,Nat.add_mul_mod_self_right,Nat.mod_eq_of_lt]
def Ws (m:Nat)(u:zA C):(rep m u).map (C.den β)=(List.replicate m (u.map (C.den β))).flatten:=by unfold rep;rw [List.map_flatten,Wx7]
def Wr {m:Nat}{u:zA C}(h:u.flatMap C.ids=[]):(rep m u).flatMap C.ids=[]:=by
 unfold rep
 induction m<;>grind
theorem oX (m:Nat)(u:zA un):uB m u=(List.replicate m u).flatten:=by
 unfold uB;split
 ·rename_i z
  induction m<;>grind
 ·rfl
theorem wM {z:un}{m:Nat}(k:Nat)(u:k=m*z.cells.size):((Array.range k).map λj=>z.cells[j%z.cells.size]!)=((List.replicate m z.cells.toList).flatten).toArray:=by apply ľ;rw [Qd9,Array.toList_range];subst u;have:=PZ z.cells.toList m;simpa using this
def Az {z:un}{m:Nat}(u:m*z.cells.size=0):(List.replicate m z.cells.toList).flatten=[]:=by rcases Ww3.1 u with h|h;{subst h;rfl};{have:z.cells.toList=[]:=χ;rw [this];simp}
def TA:Array.range 0=#[]:=rfl
def AA (hT:dT.ok P T)(hM:ß n V0 bQ β0 st β a w V){t:TypeId}{i:TI}(hi:oK P t=some i){e:TypeId}(hk:i.k=.slice e){len:Nat}{parts:Array (Nat×Operand)}{ps:zA (Nat×SV)}(hp:õ st.bJ parts.toList=some ps){Z:TI}(he:aH T e=some Z)(hlen:len*Z.size<=16777216)(hzl:Z.zero.length=Z.size)(hz0:Z.size≠0){cs:zA C}(hf:te (λj=>some (j*Z.size,Z.size)) (rep len Z.zero) ps=some cs)(hsc:∀p∈ps.flatMap (λx=>x.2.gN),p):(Instr.buildSlice t len (parts.map λx=>(x.1,a.eval x.2))).run P w=.ok (.slice (some ⟨w.heap.size,0,none⟩) len len) (w.alloc (aZ.obj β ⟨.lit cs,e⟩))/\∀s∈cs.flatMap C.ids,∃b,st.boxes s=some b:=by have ⟨info,d,z,K,y,L,A,M,N,O⟩:=aL hi;obtain ⟨g,Q,l,r,R,B,S,o,U,D⟩:=aL (hT _ _ he);have ⟨u,E⟩:=mB hM _ _ hp;rw [A] at hk;obtain rfl:=bj hk;have ⟨v,F⟩:=fP (β:=β) D;have ⟨f1,f2⟩:=rL (β:=β) _ _ _ hf (G0 hsc);have f:l.cells.size=g.size:=by{rw [<-v];simp [hzl,o]};refine ⟨?_,?_⟩;{have c:((List.replicate len l.cells.toList).flatten).toArray=((rep len Z.zero).map (C.den β)).toArray:=by{rw [Ws,<-v]};have G:¬len*g.size>2^24:=by{rw [<-o];simpa using hlen};simp only [Instr.buildSlice,Sem.run_bind,ai y,Result.andThen_ok,aR r,Sem.run_ite,Ã G];by_cases q:len*g.size=0;{have H:=Az (z:=l) (m:=len) (by rw [f];exact q);rw [H] at c;simp only [q,Ï,Sem.run_pure,Result.andThen_ok,TA,Array.map_empty,<-c] at f1 ⊢;rw [parts_eq u,<-o];rw [f1];simp only [Sem.run_bind,newRow,run_newObj,Result.andThen_ok,Sem.run_pure];rfl};{simp only [q,Ð,kN r B,Sem.run_pure,Result.andThen_ok];rw [wM (z:=l) (m:=len) (len*g.size) (by rw [f]),c,parts_eq u,<-o,f1];simp only [Sem.run_bind,newRow,run_newObj,Result.andThen_ok,Sem.run_pure];rfl}};{intro s I;rcases f2 s I with h|⟨x,J,h⟩;{rw [Wr F] at h;cases h};{exact E x J s h}}
def F2 {x:Int}(u:0<=x)(y:x<9223372036854775808:=by omega):i64.wrap x=x:=by unfold IntKind.wrap IntKind.bits IntKind.signed;simp;omega
def DW (hT:dT.ok P T){t:TypeId}{i:TI}(hi:oK P t=some i){e:TypeId}(O:i.k=.slice e){M:TI}(he:aH T e=some M){k1 k2:IntKind}{l c:Int}(hb:M.bytes≠0)(hs:M.size≠0){N:zA un}(Z:mD M.zero=some N)(hzl:M.size=N.length)(c1:0<=l)(c2:l<=c)(c3:(M.bytes:Int)*c<=2^47):(Instr.makeSlice t (.int k1 l) (.int k2 c)).run P w=.ok (.slice (some ⟨w.heap.size,0,none⟩) l.toNat c.toNat) (w.alloc (aZ.obj β ⟨.row (uB c.toNat N),e⟩)):=by obtain ⟨info,d,z,A,p,B,q,C,D,E⟩:=aL hi;have ⟨f,F,g,h,G,r,H,s,u,v⟩:=aL (hT _ _ he);rw [q] at O;obtain rfl:=bj O;have ⟨n,I⟩:=fP (β:=β) v;obtain ⟨d1,-⟩:=fZ (β:=β) Z;have b:g.cells.size=f.size:=by{rw [<-n,d1];simp [<-hzl,s]};have o:c<=2^47:=by{have:1<=(M.bytes:Int):=ω;have:=Int.mul_le_mul_of_nonneg_right this (by omega:0<=c);omega};have x:i64.wrap c=c:=F2 ω;rw [u] at c3;have t1:(decide (c<0)||decide ((f.bytes:Int)*c>2^48))=false:=χ;have t2:decide (l<0)=false:=by{simp;omega};have t3:decide (l>c)=false:=by{simp;omega};have a:(List.replicate c.toNat g.cells.toList).flatten=uB c.toNat N:=by{rw [oX,<-d1,<-n]};simp only [Instr.makeSlice,Sem.run_bind,ai p,Result.andThen_ok,mP h,asInt,asIntOf,Sem.run_pure,(F2 c1),x,t1,t2,t3,Bool.or_self,ŕ,Ð,run_askRoom,aR h,Sem.run_ite];by_cases j:c.toNat*f.size=0;{have y:=Az (z:=g) (m:=c.toNat) (by rw [b];exact j);rw [y] at a;simp only [j,Ï,Sem.run_bind,Sem.run_pure,Result.andThen_ok,TA,Array.map_empty,newRow,run_newObj,<-a];rfl};{simp only [j,Ð,kN h r,Result.andThen_ok];rw [wM (z:=g) (m:=c.toNat) (c.toNat*f.size) (by rw [b]),a];simp only [Sem.run_bind,newRow,run_newObj,Result.andThen_ok,Sem.run_pure];rfl}
end
section
variable {P:Program} {T:dT} {n:Nat} {V0:Ó} {bQ:KZ} {β0:Nat->Nat} {st:St} {β:Nat->Nat} {a:Act} {w:World} {V:Ó}
def I5 {gs:Array Field}{f y off:Nat}(h:(gs.toList.map λf=>(f.type,f.offset))[f]?=some (y,off)):∃u,gs[f]?=some u/\u.type=y/\u.offset=off:=by rw [Qt0] at h;(cases z:gs.toList[f]? with|none=>{rw [z] at h;cases h}|some u=>grind)
def yr (hT:dT.ok P T){t:TypeId}{i:TI}(hi:oK P t=some i){fs:zA (TypeId×Nat)}(y:i.k=.struct fs){f D off:Nat}(E:fs[f]?=some (D,off)){fi:TI}(hfi:aH T D=some fi)(F:fi.size≠0)(ad:Addr):(Instr.fieldAt t (.pointer (some ad)) f).run P w=.ok (.pointer (some (ad.add off))) w:=by have ⟨info,d,z,h,b,j,c,l,m,n⟩:=aL hi;obtain ⟨a,fd,o,e,p,q,r,s,u,v⟩:=aL (hT _ _ hfi);rw [c] at y;obtain ⟨gs,rfl,rfl⟩:=k_ y;obtain ⟨x,g,rfl,rfl⟩:=I5 E;simp only [Instr.fieldAt,Sem.run_bind,ai b,Result.andThen_ok,g,Instr.sureAddr,Sem.run_pure,fieldPlace,aR e];rw [Sem.run_ite,Ã ω];rfl
def JI {t:TypeId}{i:TI}(hi:oK P t=some i)(cs:zA C)(off:Nat):(wK i.k=true->(part t (cs.map (C.den β)).toArray off).run P w=.ok (SV.den β (.agg ((cs.drop off).take i.size))) w)/\(∀c,wK i.k=false->cs[off]?=some c->(part t (cs.map (C.den β)).toArray off).run P w=.ok (c.den β) w):=by have ⟨info,d,z,f,b,h,e,j,l,m⟩:=aL hi;refine ⟨λa=>?_,λc a g=>?_⟩;{rw [e] at a;simp only [part,Sem.run_bind,ja b,Result.andThen_ok,a,Ï,aR f,Sem.run_pure,SV.den];grind [List.map_take,List.map_drop]};{rw [e] at a;simp [part,ja b,a,g]}
def Pf (hT:dT.ok P T){t:TypeId}{i:TI}(hi:oK P t=some i){fs:zA (TypeId×Nat)}(u:i.k=.struct fs){f y off:Nat}(D:fs[f]?=some (y,off)){fi:TI}(hfi:aH T y=some fi){cs:zA C}:(wK fi.k=true->(Instr.field t (SV.den β (.agg cs)) f).run P w=.ok (SV.den β (.agg ((cs.drop off).take fi.size))) w)/\(∀c,wK fi.k=false->cs[off]?=some c->(Instr.field t (SV.den β (.agg cs)) f).run P w=.ok (c.den β) w):=by have ⟨info,d,z,n,g,o,j,p,q,s⟩:=aL hi;rw [j] at u;obtain ⟨gs,rfl,rfl⟩:=k_ u;obtain ⟨b,l,rfl,rfl⟩:=I5 D;have e:=JI (w:=w) (β:=β) (hT _ _ hfi) cs b.offset;have a:∀r,(part b.type (cs.map (C.den β)).toArray b.offset).run P w=r->(Instr.field t (SV.den β (.agg cs)) f).run P w=r:=by{intro r a;simp only [Instr.field,Sem.run_bind,ai g,Result.andThen_ok,l,asAgg,SV.den,Sem.run_pure,a]};exact ⟨λh=>a _ (e.1 h),λc h m=>a _ (e.2 c h m)⟩
def fB (k:IntKind)(x:Int):(asIntOf (.int k x)).run P w=.ok (k,x) w:=rfl
def B_ (hT:dT.ok P T){t:TypeId}{i:TI}(hi:oK P t=some i){x Z:SV}{sc:zA Prop}{v:SV}(h:iX T i x Z=.ret sc v)(hsc:∀p∈sc,p):(Instr.indexAt t (x.den β) (Z.den β)).run P w=.ok (v.den β) w/\∀s∈v.ids,s∈x.ids:=by have ⟨info,d,z,J,j,K,q,L,M,N⟩:=aL hi;unfold iX at h;split at h;{rename_i k m;split at h;{rename_i e l;rw [q] at l;obtain rfl:=bj l;split at h;{rename_i r he;have ⟨u,y,A,f,B,D,E,g,F,G⟩:=aL (hT _ _ he);split at h;{rename_i n len c;simp only [Q.ret.injEq] at h;obtain ⟨rfl,rfl⟩:=h;have H:=hsc (n.isSome=true) ψ;have b:=hsc (0<=m/\m<(len:Int)) ψ;obtain ⟨p,rfl⟩:=Qd5.1 H;refine ⟨?_,λs a=>a⟩;simp [Instr.indexAt,SV.den,C.den,fB,ai j,b,aR f,ae,g]};{rename_i s o len c;simp only [Q.ret.injEq] at h;obtain ⟨rfl,rfl⟩:=h;have b:=hsc (0<=m/\m<(len:Int)) ψ;refine ⟨?_,λs a=>by simpa [SV.ids,C.ids] using a⟩;simp [Instr.indexAt,SV.den,C.den,fB,ai j,b,aR f,gG,g]};{rename_i s len c;simp only [Q.ret.injEq] at h;obtain ⟨rfl,rfl⟩:=h;have b:=hsc (0<=m/\m<(len:Int)) ψ;have O:=hsc (len<=c) ψ;refine ⟨?_,λs a=>by simpa [SV.ids,C.ids] using a⟩;have I:mA (β s) c=some ⟨β s,0,none⟩:=by{unfold mA;rw [Ã ω]};simp [Instr.indexAt,SV.den,C.den,fB,ai j,b,aR f,gG,g,I]};{cases h}};{cases h}};{rename_i len e l;rw [q] at l;obtain rfl:=qj l;split at h;{rename_i r he;have ⟨u,y,A,f,B,D,E,g,F,G⟩:=aL (hT _ _ he);split at h;{rename_i s o;simp only [Q.ret.injEq] at h;obtain ⟨rfl,rfl⟩:=h;have b:=hsc (0<=m/\m<(len:Int)) ψ;refine ⟨?_,λs a=>by simpa [SV.ids,C.ids] using a⟩;simp [Instr.indexAt,Instr.sureAddr,SV.den,C.den,fB,ai j,b,aR f,gG,g]};{rename_i n;simp only [Q.ret.injEq] at h;obtain ⟨rfl,rfl⟩:=h;obtain ⟨p,rfl⟩:=Qd5.1 (hsc (n.isSome=true) ψ);refine ⟨?_,λs a=>a⟩;simp [Instr.indexAt,Instr.sureAddr,SV.den,C.den,fB,ai j,(hsc (0<=m/\m<(len:Int)) ψ),aR f,ae,g]};{cases h}};{cases h}};{cases h}};{cases h}
def OP {k:IntKind}{x:Int}{y:Nat}(code:BoundsCode)(h:0<=x/\x<=(y:Int)):(Instr.sliceBound (.int k x) y code).run P w=.ok x.toNat w:=by simp [Instr.sliceBound,fB,h]
def jI {len c:Nat}{lo hi mx:Option SV}{sc:zA Prop}{l:Option Nat}{h m:Nat}(u:rU len c lo hi mx=some (sc,l,h,m))(hsc:∀p∈sc,p):(Instr.sliceBounds true len c (lo.map (SV.den β)) (hi.map (SV.den β)) (mx.map (SV.den β))).run P w=.ok (l.getD 0,h,m) w:=by
 unfold rU at u
 cases y:Wm c mx with
 | none=>rw [y] at u;cases u
 | some t=>
  obtain ⟨g,a⟩:=t;rw [y] at u;dsimp only at u
  cases z:Tu len a hi mx with
  | none=>rw [z] at u;cases u
  | some t=>
   obtain ⟨i,b⟩:=t;rw [z] at u;dsimp only at u
   cases D:ZI b lo with
   | none=>rw [D] at u;cases u
   | some t=>
    obtain ⟨j,f⟩:=t;rw [D] at u;simp only [ÿ,ŗ] at u;obtain ⟨rfl,rfl,rfl,rfl⟩:=u
    have hm:((mx=none/\a=c)\/∃k x,mx=some (.c (.v (.int k x)))/\a=x.toNat/\(0<=x/\x<=(c:Int))):=by unfold Wm at y;split at y;{simp only [ÿ,ŗ] at y;exact .inl ⟨rfl,y.2.symm⟩};{rename_i k x;simp only [ÿ,ŗ] at y;obtain ⟨rfl,rfl⟩:=y;exact .inr ⟨k,x,rfl,rfl,hsc _ ψ⟩};{cases y}
    have d:((hi=none/\mx=none/\b=len)\/∃k x,hi=some (.c (.v (.int k x)))/\b=x.toNat/\(0<=x/\x<=(a:Int))):=by unfold Tu at z;split at z;{rename_i k x;simp only [ÿ,ŗ] at z;obtain ⟨rfl,rfl⟩:=z;exact .inr ⟨k,x,rfl,rfl,hsc _ ψ⟩};{simp only [ÿ,ŗ] at z;exact .inl ⟨rfl,rfl,z.2.symm⟩};{cases z}
    have e:((lo=none/\f=none)\/∃k x,lo=some (.c (.v (.int k x)))/\f=some x.toNat/\(0<=x/\x<=(b:Int))):=by unfold ZI at D;split at D;{simp only [ÿ,ŗ] at D;exact .inl ⟨rfl,D.2.symm⟩};{rename_i k x;simp only [ÿ,ŗ] at D;obtain ⟨rfl,rfl⟩:=D;exact .inr ⟨k,x,rfl,rfl,hsc _ ψ⟩};{cases D}
    clear y z D hsc
    rcases hm with ⟨rfl,rfl⟩|⟨n,o,rfl,rfl,q⟩<;>rcases d with ⟨rfl,E,rfl⟩|⟨k2,F,rfl,rfl,M⟩<;>rcases e with ⟨rfl,rfl⟩|⟨N,O,rfl,rfl,Z⟩ <;>
     (try cases E) <;>
     simp only [Instr.sliceBounds,Option.map_none,Ww2,SV.den,C.den,Sem.run_bind,Sem.run_pure,Result.andThen_ok,Qt9,Qf6,Option.isSome_none,Option.isSome_some,Ï,ŕ,Ð] <;>
     (repeat (rw [OP _ ξ];simp only [Result.andThen_ok]))
def Mg (hT:dT.ok P T){t:TypeId}{i:TI}(hi:oK P t=some i){e:TypeId}(Z:i.k=.slice e){ei:TI}(he:aH T e=some ei){x:SV}{lo O mx:Option SV}{sc:zA Prop}{v:SV}(h:xG ei.size x lo O mx=.ret sc v)(hsc:∀p∈sc,p):(Instr.sliceAt t (x.den β) (lo.map (SV.den β)) (O.map (SV.den β)) (mx.map (SV.den β))).run P w=.ok (v.den β) w/\∀s∈v.ids,s∈x.ids:=by have ⟨info,d,z,y,j,A,u,B,D,E⟩:=aL hi;have ⟨F,G,H,n,I,J,K,r,L,M⟩:=aL (hT _ _ he);rw [u] at Z;obtain rfl:=bj Z;have a:∀p:OA,p.map (λx=>x.add 0)=p:=by{intro p;cases p<;>simp [Addr.add]};unfold xG at h;split at h;{rename_i N len c;split at h;{rename_i f q m b;simp only [Q.ret.injEq] at h;obtain ⟨rfl,rfl⟩:=h;have:=jI (P:=P) (w:=w) (β:=β) b hsc;refine ⟨?_,λs g=>g⟩;simp only [Instr.sliceAt,Instr.slice,SV.den,C.den,Sem.run_bind,ai j,Result.andThen_ok,this,aR n,Sem.run_pure,Qt9,Ŗ,Wk2,a,ite_self]};{rename_i f l q m b;simp only [Q.ret.injEq] at h;obtain ⟨rfl,rfl⟩:=h;have:=jI (P:=P) (w:=w) (β:=β) b hsc;refine ⟨?_,λs g=>g⟩;simp only [Instr.sliceAt,Instr.slice,SV.den,C.den,Sem.run_bind,ai j,Result.andThen_ok,this,aR n,Sem.run_pure,Qf6,r];rfl};{cases h}};{rename_i s o len c;split at h;{rename_i f q m b;simp only [Q.ret.injEq] at h;obtain ⟨rfl,rfl⟩:=h;have:=jI (P:=P) (w:=w) (β:=β) b hsc;refine ⟨?_,λs g=>by simpa [SV.ids,C.ids] using g⟩;simp only [Instr.sliceAt,Instr.slice,SV.den,C.den,Sem.run_bind,ai j,Result.andThen_ok,this,aR n,Sem.run_pure,Qt9,Ŗ,Wk2,a,ite_self]};{rename_i f l q m b;simp only [Q.ret.injEq] at h;obtain ⟨rfl,rfl⟩:=h;have:=jI (P:=P) (w:=w) (β:=β) b hsc;refine ⟨?_,λs g=>by simpa [SV.ids,C.ids] using g⟩;simp only [Instr.sliceAt,Instr.slice,SV.den,C.den,Sem.run_bind,ai j,Result.andThen_ok,this,aR n,Sem.run_pure,Qf6,r];congr 2;unfold pO;split<;>simp [gG]};{cases h}};{rename_i s len c;split at h;{split at h;{rename_i f q m b;simp only [Q.ret.injEq] at h;obtain ⟨rfl,rfl⟩:=h;have hm:m=c:=by{unfold rU at b;simp only [Wm] at b;grind};have:=jI (P:=P) (w:=w) (β:=β) b hsc;refine ⟨?_,λs g=>by simpa [SV.ids,C.ids] using g⟩;simp only [Instr.sliceAt,Instr.slice,SV.den,C.den,Sem.run_bind,ai j,Result.andThen_ok,this,aR n,Sem.run_pure,Qt9,Ŗ,Wk2,a,ite_self,hm]};{cases h}};{cases h}};{cases h}
end
section
variable {P:Program} {T:dT} {n:Nat} {V0:Ó} {bQ:KZ} {β0:Nat->Nat} {st:St} {β:Nat->Nat} {a:Act} {w:World} {V:Ó}
theorem fl {s:Sem un}{v:un}{w':World}(h:s.run P w=.ok v w'):(do pure (Next.value (<-s)):Sem Next).run P w=.ok (.value v) w':=by simp [h]
def run_u {s:Sem Unit}{w':World}(h:s.run P w=.ok () w'):(do s;pure Next.skip:Sem Next).run P w=.ok .skip w':=by simp [h]
def xk {f:Int->Int->Int}{k:IntKind}{g:un->un->Sem un}(u:∀x y k',(g (.int k x) (.int k' y))=pure (.int k (f x y))):∀(r:zA SV)(x m:Int),Ī f k x r=some m ->((r.map (SV.den β)).foldlM g (.int k x)).run P w=.ok (.int k m) w
 | [],x,m,h=>by simp only [Ī,ÿ] at h;subst h;rfl
 | y::r,x,m,h=>by
  unfold Ī at h;split at h
  ·rename_i e;cases e
  ·rename_i k' b z e;simp only [ł] at e;obtain ⟨rfl,rfl⟩:=e;split at h
   ·simp only [Ķ,List.foldlM_cons,SV.den,C.den,u,pure_bind];exact xk u r _ m h
   ·cases h
  ·cases h
def Om:∀{cs:zA C} {l:zA (OA×Nat×Nat)} {k:Nat},Ol cs=some l->k<l.length->cs[k]?=some (.v (.slice (l.getD k (none,0,0)).1 (l.getD k (none,0,0)).2.1 (l.getD k (none,0,0)).2.2))
 | [],l,k,h,u=>by cases h;cases u
 | c::r,l,k,h,u=>by
  unfold Ol at h;split at h
  ·cases ‹_=[]›
  ·rename_i p n d z e;cases e;split at h
   ·rename_i l' y;cases h
    cases k with
    | zero=>rfl
    | succ k=>simpa using Om y (by simpa using u)
   ·cases h
  ·cases h
def yj {d:TypeDesc}(h:mT d=.str):d=.string:=by cases d<;>simp_all [mT]
def Ha {b:Builtin}{xs:zA SV}{t:TypeId}{ts:zA TypeId}{ty:TypeId}{cs:Array md}{i:TI}(hi:oK P t=some i){sc:zA Prop}{v:SV}(h:nO b i.k xs=.ret sc v):(builtin b (t::ts).toArray ty cs (xs.map (SV.den β)).toArray).run P w=.ok (.value (v.den β)) w/\v.ids=[]:=by have ⟨info,d,z,u,l,A,n,B,D,E⟩:=aL hi;unfold nO at h;split at h;{cases h};{rename_i x r;split at h;{split at h;{rename_i e p m c j;rw [n] at j;obtain rfl:=bj j;simp only [Q.ret.injEq] at h;obtain ⟨rfl,rfl⟩:=h;refine ⟨?_,rfl⟩;simp [builtin,Builtin.len_,ai l,SV.den,C.den,goInt]};{rename_i e s o m c j;rw [n] at j;obtain rfl:=bj j;simp only [Q.ret.injEq] at h;obtain ⟨rfl,rfl⟩:=h;refine ⟨?_,rfl⟩;simp [builtin,Builtin.len_,ai l,SV.den,C.den,goInt]};{rename_i e s m c j;rw [n] at j;obtain rfl:=bj j;simp only [Q.ret.injEq] at h;obtain ⟨rfl,rfl⟩:=h;refine ⟨?_,rfl⟩;simp [builtin,Builtin.len_,ai l,SV.den,C.den,goInt]};{rename_i s j;rw [n] at j;obtain rfl:=yj j;simp only [Q.ret.injEq] at h;obtain ⟨rfl,rfl⟩:=h;refine ⟨?_,rfl⟩;simp [builtin,Builtin.len_,ai l,SV.den,C.den,goInt]};{cases h}};{split at h;{rename_i e p m c j;rw [n] at j;obtain rfl:=bj j;simp only [Q.ret.injEq] at h;obtain ⟨rfl,rfl⟩:=h;refine ⟨?_,rfl⟩;simp [builtin,Builtin.cap_,ai l,SV.den,C.den,goInt]};{rename_i e s o m c j;rw [n] at j;obtain rfl:=bj j;simp only [Q.ret.injEq] at h;obtain ⟨rfl,rfl⟩:=h;refine ⟨?_,rfl⟩;simp [builtin,Builtin.cap_,ai l,SV.den,C.den,goInt]};{rename_i e s m c j;rw [n] at j;obtain rfl:=bj j;simp only [Q.ret.injEq] at h;obtain ⟨rfl,rfl⟩:=h;refine ⟨?_,rfl⟩;simp [builtin,Builtin.cap_,ai l,SV.den,C.den,goInt]};{cases h}};{split at h;{rename_i k a;split at h;{rename_i m hm;simp only [Q.ret.injEq] at h;obtain ⟨rfl,rfl⟩:=h;refine ⟨?_,rfl⟩;have:=xk (P:=P) (w:=w) (β:=β) (f:=cH) (k:=k) (g:=Builtin.min2) (λx y q=>by simp [Builtin.min2,cH]) r a m hm;simp [builtin,Builtin.min_,SV.den,C.den] at this ⊢;rw [this];rfl};{cases h}};{cases h}};{split at h;{rename_i k a;split at h;{rename_i m hm;simp only [Q.ret.injEq] at h;obtain ⟨rfl,rfl⟩:=h;refine ⟨?_,rfl⟩;have:=xk (P:=P) (w:=w) (β:=β) (f:=b_) (k:=k) (g:=Builtin.max2) (λx y q=>by simp [Builtin.max2,b_]) r a m hm;simp [builtin,Builtin.max_,SV.den,C.den] at this ⊢;rw [this];rfl};{cases h}};{cases h}};{cases h}}
def RG {x:md×zA C}{y:SV}(h:xf x=some y):kf β x=y.den β/\∀s∈y.ids,s∈x.2.flatMap C.ids:=by
 obtain ⟨b,cs⟩:=x
 cases b with
 | true=>simp only [xf,ÿ] at h;subst h;exact ⟨rfl,λs a=>a⟩
 | false=>
  match cs,h with
  | [],h=>simp [xf] at h
  | [c],h=>simp only [xf,ÿ] at h;subst h;exact ⟨rfl,λs a=>by simpa [SV.ids] using a⟩
  | _::_::_,h=>simp [xf] at h
def yB:∀(xs:zA SV)(ss:zA Nat),B7 xs=some ss->xs.map (SV.den β)=(ss.map λs=>Value.pointer (some ⟨β s,0,none⟩))/\∀s∈ss,∃x∈xs,s∈x.ids
 | [],ss,h=>by simp only [B7,ÿ] at h;subst h;exact ⟨rfl,λs u=>by cases u⟩
 | x::r,ss,h=>by
  unfold B7 at h;split at h
  ·rename_i e;cases e
  ·rename_i s y e;simp only [ł] at e;obtain ⟨rfl,rfl⟩:=e;split at h
   ·rename_i l b;simp only [ÿ] at h;subst h;have ⟨d,g⟩:=yB r l b;refine ⟨by simp [d,SV.den,C.den],λf a=>?_⟩;rcases ê.1 a with rfl|a
    ·exact ⟨.c (.ptr f 0),ψ,by simp [SV.ids,C.ids]⟩
    grind
   ·cases h
  ·cases h
def BU (u:ß n V0 bQ β0 st β a w V){x:Option Operand}{v:Option SV}(h:G2 st.bJ x=some v):x.map a.eval=v.map (SV.den β):=by (cases x with|none=>{simp only [G2,ÿ] at h;subst h;rfl}|some o=>{simp only [G2] at h;grind [u.eval]})
def rO {x y:SV}(u:Ď st x)(h:∀s∈y.ids,s∈x.ids):Ď st y:=λs a=>u s (h s a)
theorem oR {bx:Nat->Option aZ}{t:TypeId}{x:SV}:oQ T bx t x=.fail\/∃sc s b,oQ T bx t x=.zd sc s b:=by
 unfold oQ;split<;>(try split)<;>(try split)<;>(try split)<;>(try split)<;>(try split)<;>first|exact .inl rfl|exact .inr ⟨_,_,_,rfl⟩
def Me {bx:Nat->Option aZ}{t:TypeId}{x:SV}{sc:zA Prop}{v:SV}(h:oQ T bx t x=.ret sc v):False:=by grind [oR]
def JO {bx:Nat->Option aZ}{e:TypeId}{u:TI}{b x:SV}{sc:zA Prop}{v:SV}(h:cW bx e u b x=.ret sc v):False:=by unfold cW at h;grind
def PU (hT:dT.ok P T)(D:ß n V0 bQ β0 st β a w V){o:Oper}{sc:zA Prop}{v:SV}(h:aT T st.bJ st.boxes o.op=.ret sc v)(hsc:∀p∈sc,p):(execOp a.eval o).run P w=.ok (.value (v.den β)) w/\Ď st v:=by unfold aT at h;split at h;(case h_1 op x hop=>split at h;{rename_i y hy;simp only [Q.ret.injEq] at h;obtain ⟨rfl,rfl⟩:=h;refine ⟨?_,D.live hy⟩;simp only [execOp,hop,D.eval hy];rfl};{cases h});(case h_2 op x hop=>split at h;{rename_i y hy;simp only [Q.ret.injEq] at h;obtain ⟨rfl,rfl⟩:=h;refine ⟨?_,D.live hy⟩;simp only [execOp,hop,D.eval hy];rfl};{cases h});(case h_3 op c x y hop=>split at h;{rename_i hc;split at h;{rename_i z hz;simp only [Q.ret.injEq] at h;obtain ⟨rfl,rfl⟩:=h;refine ⟨?_,D.live hz⟩;simp [execOp,hop,D.eval hz,D.eval hc,SV.den,C.den,asBool]};{cases h}};{rename_i hc;split at h;{rename_i z hz;simp only [Q.ret.injEq] at h;obtain ⟨rfl,rfl⟩:=h;refine ⟨?_,D.live hz⟩;simp [execOp,hop,D.eval hz,D.eval hc,SV.den,C.den,asBool]};{cases h}};{cases h});(case h_4=>split at h<;>cases h);(case h_5=>split at h;{split at h<;>cases h};{cases h});(case h_6 op t parts hop=>split at h;{rename_i i ps hi hps;have hi:=hT _ _ hi;split at h;{rename_i fs N;split at h;{rename_i pl hpl;split at h;{rename_i cs hcs;simp only [Q.ret.injEq] at h;obtain ⟨rfl,rfl⟩:=h;have ⟨M,F⟩:=Gc hT D hi N hps hpl hcs hsc;refine ⟨?_,F⟩;simp only [execOp,hop];exact fl M};{cases h}};{cases h}};{rename_i m e N;split at h;{rename_i ei I9;split at h;{rename_i cs hcs;simp only [Q.ret.injEq] at h;obtain ⟨rfl,rfl⟩:=h;have ⟨M,F⟩:=Is hT D hi N hps I9 hcs hsc;refine ⟨?_,F⟩;simp only [execOp,hop];exact fl M};{cases h}};{cases h}};{cases h}};{cases h});(case h_7=>split at h;{split at h;{split at h;{split at h;{split at h<;>cases h};{cases h}};{cases h}};{cases h}};{cases h});(case h_8 op t x hop=>split at h;{rename_i i y hi hy;have ⟨M,F⟩:=FB D (hT _ _ hi) h;refine ⟨?_,F⟩;simp only [execOp,hop,D.eval hy];exact fl M};{cases h});(case h_9=>split at h;{unfold iY at h;split at h;{split at h;{split at h;{split at h<;>cases h};{split at h<;>cases h};{split at h;{cases h};{split at h<;>cases h}};{cases h}};{cases h}};{cases h}};{cases h});(case h_10 op x hop=>split at h;{rename_i s o E;simp only [Q.ret.injEq] at h;obtain ⟨rfl,rfl⟩:=h;refine ⟨?_,D.live E⟩;simp [execOp,hop,D.eval E,SV.den,C.den]};{rename_i p E;simp only [Q.ret.injEq] at h;obtain ⟨rfl,rfl⟩:=h;obtain ⟨ad,rfl⟩:=Qd5.1 (hsc (p.isSome=true) ψ);refine ⟨?_,D.live E⟩;simp [execOp,hop,D.eval E,SV.den,C.den]};{cases h});(case h_11 op bop xt x y yt hop=>split at h;{rename_i p q hp hq;have key:(q=.v .nilIface->∃c,y=.const c)->G_ T bop xt p q=.ret sc v->(execOp a.eval o).run P w=.ok (.value (v.den β)) w/\Ď st v:=by{intro hc h;have ⟨M,F⟩:=Tt (P:=P) (w:=w) (β:=β) hT (ox:=x) (oy:=y) h hsc hc;refine ⟨?_,cu F⟩;simp only [execOp,hop,D.eval hp,D.eval hq];exact fl M};split at h;{split at h;{exact key (λ_=>⟨_,rfl⟩) h};{cases h}};{rename_i hne;exact key (λe=>Å e hne) h}};{cases h});(case h_12 op t x hop=>split at h;{rename_i E;simp only [Q.ret.injEq] at h;obtain ⟨rfl,rfl⟩:=h;refine ⟨?_,cu rfl⟩;simp [execOp,hop,D.eval E,SV.den,C.den,Op.unary]};{rename_i E;simp only [Q.ret.injEq] at h;obtain ⟨rfl,rfl⟩:=h;refine ⟨?_,cu rfl⟩;simp [execOp,hop,D.eval E,SV.den,C.den,Op.unary]};{rename_i b E;simp only [Q.ret.injEq] at h;obtain ⟨rfl,rfl⟩:=h;refine ⟨?_,cu rfl⟩;simp [execOp,hop,D.eval E,SV.den,C.den,Op.unary]};{cases h});(case h_13 op t x hop=>split at h;{rename_i k m E;simp only [Q.ret.injEq] at h;obtain ⟨rfl,rfl⟩:=h;refine ⟨?_,cu rfl⟩;simp [execOp,hop,D.eval E,SV.den,C.den,Op.unary,Op.intBits,bY]};{cases h});(case h_14 op t x hop=>split at h;{rename_i k m E;simp only [Q.ret.injEq] at h;obtain ⟨rfl,rfl⟩:=h;refine ⟨?_,cu rfl⟩;simp [execOp,hop,D.eval E,SV.den,C.den,Op.unary,Op.intArith]};{cases h});(case h_15 op src dst x hop=>split at h;{rename_i i0 i k m hi0 hi E;obtain ⟨Xw,d0,z0,g1,g2,-⟩:=aL (hT _ _ hi0);have ⟨info,d,z,M,F,h3,h4,h5,h6,h7⟩:=aL (hT _ _ hi);split at h;{rename_i k' N;rw [h4] at N;obtain rfl:=I0 N;simp only [Q.ret.injEq] at h;obtain ⟨rfl,rfl⟩:=h;refine ⟨?_,cu rfl⟩;simp only [execOp,hop,D.eval E];refine fl ?_;simp only [convert,Sem.run_bind,ai g2,ai F,Result.andThen_ok,SV.den,C.den];cases d0<;>rfl};{cases h}};{cases h});(case h_16 op f first caps hop=>split at h;{rename_i hf;split at h;{rename_i xs hxs;split at h;{rename_i ss hss;simp only [Q.ret.injEq] at h;obtain ⟨rfl,rfl⟩:=h;have ⟨M,F⟩:=hZ D _ _ hxs;have ⟨h3,h4⟩:=yB (β:=β) _ _ hss;refine ⟨?_,λs O=>?_⟩;{have e1:first=#[]:=by{apply ľ;exact hf};have e2:caps.map a.eval=(ss.map λs=>Value.pointer (some ⟨β s,0,none⟩)).toArray:=by{apply ľ;rw [Qd9,M,h3]};simp [execOp,hop,Instr.makeFunc,e1,e2,SV.den,C.den]};{have ⟨x,E,hs'⟩:=h4 s O;exact F x E s hs'}};{cases h}};{cases h}};{rename_i x hf;split at h;{rename_i cs hc E;split at h;{rename_i vs hvs;simp only [Q.ret.injEq] at h;obtain ⟨rfl,rfl⟩:=h;have e1:first=#[x]:=by{apply ľ;exact hf};have e2:caps=#[]:=by{apply ľ;exact hc};have e3:=D.eval E;simp only [SV.den,EY (β:=β) hvs] at e3;exact ⟨by simp [execOp,hop,Instr.makeFunc,e1,e2,e3,SV.den,C.den],λs O=>by simp [SV.ids,C.ids] at O⟩};{cases h}};{cases h}};{cases h});(case h_17=>split at h;{unfold FC at h;split at h;{split at h;{split at h;{split at h;{split at h<;>cases h};{cases h}};{cases h}};{cases h}};{cases h}};{cases h});(case h_18 op t x lo hi mx hop=>split at h;{rename_i i xv l h' m hi' E hl hh hm;split at h;{rename_i e N;split at h;{rename_i ei I9;have ⟨M,F⟩:=Mg (P:=P) (w:=w) (β:=β) hT (hT _ _ hi') N I9 h hsc;refine ⟨?_,rO (D.live E) F⟩;simp only [execOp,hop,D.eval E,BU D hl,BU D hh,BU D hm];exact fl M};{cases h}};{cases h}};{cases h});(case h_19 op t x f hop=>split at h;{rename_i i xv hi E;have hi:=hT _ _ hi;split at h;{rename_i fs N;split at h;{rename_i ft off hf;split at h;{rename_i fi hfi;split at h;{cases h};{rename_i O;have O:fi.size≠0:=λe=>O (beq_eq.2 e);split at h;{rename_i s o';simp only [Q.ret.injEq] at h;obtain ⟨rfl,rfl⟩:=h;have:=yr (w:=w) hT hi N hf hfi O ⟨β s,o',none⟩;rw [gG] at this;refine ⟨?_,rO (D.live E) (λs O=>by simpa [SV.ids,C.ids] using O)⟩;simp only [execOp,hop,D.eval E];exact fl this};{rename_i p;simp only [Q.ret.injEq] at h;obtain ⟨rfl,rfl⟩:=h;obtain ⟨ad,rfl⟩:=Qd5.1 (hsc (p.isSome=true) ψ);have:=yr (w:=w) hT hi N hf hfi O ad;refine ⟨?_,cu rfl⟩;simp only [execOp,hop,D.eval E];exact fl this};{cases h}}};{cases h}};{cases h}};{cases h}};{cases h});(case h_20 op t x f hop=>split at h;{rename_i i cs hi E;have hi:=hT _ _ hi;split at h;{rename_i fs N;split at h;{rename_i ft off hf;split at h;{rename_i fi hfi;have ⟨g1,g2⟩:=Pf (P:=P) (w:=w) (β:=β) hT hi N hf hfi (cs:=cs);have hagg:wK fi.k=true->Q.ret [] (.agg ((cs.drop off).take fi.size))=.ret sc v->(execOp a.eval o).run P w=.ok (.value (v.den β)) w/\Ď st v:=by{intro Z h;simp only [Q.ret.injEq] at h;obtain ⟨rfl,rfl⟩:=h;refine ⟨?_,rO (D.live E) λs O=>?_⟩;{simp only [execOp,hop,D.eval E];exact fl (g1 Z)};{have ⟨c,hc,O⟩:=ĕ.1 O;exact vj (Qg2 (Qb3 hc)) O}};split at h;{rename_i Z;exact hagg (by rw [Z];rfl) h};{rename_i Z;exact hagg (by rw [Z];rfl) h};{rename_i hk1 hk2;have Z:wK fi.k=false:=by{(cases hik:fi.k<;>first|rfl|exact Å hik (hk1 _)|exact Å hik (hk2 _ _))};split at h;{rename_i c hc;simp only [Q.ret.injEq] at h;obtain ⟨rfl,rfl⟩:=h;refine ⟨?_,rO (D.live E) λs O=>?_⟩;{simp only [execOp,hop,D.eval E];exact fl (g2 c Z hc)};{exact vj (Qb4 hc) O}};{cases h}}};{cases h}};{cases h}};{cases h}};{cases h});(case h_21 op t x ix hop=>split at h;{rename_i i xv iv hi E hix;have ⟨M,F⟩:=B_ (P:=P) (w:=w) (β:=β) hT (hT _ _ hi) h hsc;refine ⟨?_,rO (D.live E) F⟩;simp only [execOp,hop,D.eval E,D.eval hix];exact fl M};{cases h});(case h_22 op x j hop=>split at h;{rename_i xs E;split at h;{rename_i y hy;split at h;{rename_i z hz;simp only [Q.ret.injEq] at h;obtain ⟨rfl,rfl⟩:=h;have ⟨M,F⟩:=RG (β:=β) hz;refine ⟨?_,rO (D.live E) λs O=>ĕ.2 ⟨y,Qb4 hy,F s O⟩⟩;have:(xs.map (kf β))[j]?=some (z.den β):=by{rw [Qt0,hy];simp [M]};simp [execOp,hop,D.eval E,SV.den,Instr.extract,hy,M]};{cases h}};{cases h}};{cases h});(case h_23 op c hop=>split at h;{split at h;{split at h;{split at h;{split at h;{exact (JO h).elim};{cases h}};{cases h}};{cases h}};{cases h}};{split at h;{exact (Me h).elim};{cases h}};{rename_i b hb hb2 hc;split at h;{rename_i xs t ts hxs hts;split at h;{rename_i i hi;have ⟨M,F⟩:=hZ D _ _ hxs;have e1:c.argTypes=(t::ts).toArray:=by{apply ľ;exact hts};have e2:c.args.map a.eval=(xs.map (SV.den β)).toArray:=by{apply ľ;rw [Qd9];exact M};have ⟨k1,k2⟩:=Ha (P:=P) (w:=w) (β:=β) (ts:=ts) (ty:=o.type) (cs:=c.args.map λ|.const _=>true|_=>false) (hT _ _ hi) h;refine ⟨?_,cu k2⟩;simp only [execOp,hop,resolve,hc,pure_bind,invoke,e1,e2];exact k1};{cases h}};{cases h}};{cases h});(case h_24 op t x ix hop=>split at h;{rename_i i s k m hi E hix;split at h;{rename_i N;have ⟨info,d,z,M,F,h3,h4,h5,h6,h7⟩:=aL (hT _ _ hi);rw [h4] at N;obtain rfl:=yj N;simp only [Q.ret.injEq] at h;obtain ⟨rfl,rfl⟩:=h;have hb:=hsc _ (ö.2 rfl);refine ⟨?_,cu rfl⟩;have hlt:m.toNat<s.size:=ω;have e:s.data.toList.getD m.toNat 0=s[m.toNat]'hlt:=by{have:s.data.toList[m.toNat]?=some (s[m.toNat]'hlt):=by{rw [Array.getElem?_toList];exact Array.getElem?_eq_getElem (by simpa using hlt)};rw [Ė,this];rfl};simp only [execOp,hop,D.eval E,D.eval hix,SV.den,C.den];grind [fl,run_index_string]};{cases h}};{rename_i i cs k m hi E hix;unfold nP at h;split at h;{rename_i n e N;split at h;{rename_i ei l I9 hl;split at h;{rename_i e2 hek;split at h;{rename_i hb;rw [Č] at hb;simp only [Q.ret.injEq] at h;obtain ⟨rfl,rfl⟩:=h;have hm:=hsc _ (ö.2 rfl);have ⟨info,d,z,M,F,h3,h4,h5,h6,h7⟩:=aL (hT _ _ hi);rw [h4] at N;obtain rfl:=qj N;have ⟨jF,ed,ez,e1,e2,e3,e4,e5,e6,e7⟩:=aL (hT _ _ I9);refine ⟨?_,cu rfl⟩;have b2:=beq_eq.1 hb.2;simp only [execOp,hop,D.eval E,D.eval hix];refine fl ?_;have es:m.toNat*jF.size=m.toNat:=by{rw [<-e5,(beq_eq.1 hb.1),Ĝ]};simp only [Instr.index,SV.den,C.den,fB,Sem.run_bind,Result.andThen_ok,ai F,Sem.run_ite,Ä hm,aR e1,es];exact ((JI (w:=w) (β:=β) (hT _ _ I9) cs m.toNat).2 _ (by rw [hek];rfl) (Om hl (show m.toNat<l.length by omega)))};{cases h}};{cases h}};{cases h}};{cases h}};{cases h});(case h_25 op t x hop=>split at h;{rename_i i y hi E;have ⟨info,d,z,M,F,h3,h4,h5,h6,h7⟩:=aL (hT _ _ hi);unfold B9 at h;split at h;{cases h};{rename_i N;split at h;{rename_i lk htup;simp only [Q.ret.injEq] at h;obtain ⟨rfl,rfl⟩:=h;refine ⟨?_,cu rfl⟩;simp only [execOp,hop,D.eval E];refine fl ?_;have hd:∀ms,d≠.interface ms:=λms e=>by{rw [e] at h4;exact N h4};have e2:y.den β=y.den λ_=>0:=SV.bX λs O=>by{rw [lk] at O;cases O};show (Instr.makeInterface t (y.den β)).run P w=.ok (.iface t (y.den λ_=>0)) w;rw [e2];generalize y.den (λ_=>0)=u;simp only [Instr.makeInterface,Sem.run_bind,ai F,Result.andThen_ok];(cases d<;>first|rfl|exact Å rfl (hd _))};{cases h}}};{cases h});(case h_26=>cases h)
end
section
variable {P:Program} {T:dT} {n:Nat} {V0:Ó} {bQ:KZ} {β0:Nat->Nat} {st:St} {β:Nat->Nat} {a:Act} {w:World} {V:Ó}
def PT (hT:dT.ok P T)(D:ß n V0 bQ β0 st β a w V){o:Oper}{sc:zA Prop}{b:aZ}{x:Nat->SV}(h:aT T st.bJ st.boxes o.op=.new sc b x)(hsc:∀p∈sc,p):∃v,(execOp a.eval o).run P w=.ok (.value v) (w.alloc (b.obj β))/\(∀d,v=(x d).den (cR β d w.heap.size)/\(x d).ids=[d])/\(∀s∈b.cs.ids,∃b',st.boxes s=some b'):=by have hx:∀d,SV.den (cR β d w.heap.size) (.c (.ptr d 0))=.pointer (some ⟨w.heap.size,0,none⟩):=λd=>by{simp [SV.den,C.den,bg]};have hy:∀d m c,SV.den (cR β d w.heap.size) (.c (.mQ d 0 m c))=.slice (some ⟨w.heap.size,0,none⟩) m c:=λd m c=>by{simp [SV.den,C.den,bg]};unfold aT at h;split at h;(case h_1=>split at h<;>cases h);(case h_2=>split at h<;>cases h);(case h_3=>split at h<;>(try split at h)<;>cases h);(case h_4 op t hop=>split at h;{rename_i i hi;have ⟨info,d,z,O,h2,h3,h4,h5,h6,h7⟩:=aL (hT _ _ hi);simp only [Q.new.injEq] at h;obtain ⟨rfl,rfl,rfl⟩:=h;have ⟨z1,z2⟩:=fP (β:=β) h7;refine ⟨.pointer (some ⟨w.heap.size,0,none⟩),?_,λd=>⟨(hx d).symm,rfl⟩,λs u=>by rw [show ç.ids (.lit i.zero)=[] from z2] at u;cases u⟩;simp only [execOp,hop];refine fl ?_;simp only [Instr.alloc,Sem.run_bind,kN O h3,Result.andThen_ok,newVar,newRow,run_newObj,Sem.run_pure,aZ.obj,ç.den,z1];rfl};{cases h});(case h_5 op t y hop=>split at h;{rename_i v hv;split at h;{cases h};{rename_i hnt;simp only [Q.new.injEq] at h;obtain ⟨rfl,rfl,rfl⟩:=h;obtain ⟨c1,-⟩:=SV.wZ (β:=β) hnt hsc;refine ⟨.pointer (some ⟨w.heap.size,0,none⟩),?_,λd=>⟨(hx d).symm,rfl⟩,λs u=>D.live hv s (SV.w_ hnt u)⟩;simp only [execOp,hop,D.eval hv];refine fl ?_;simp only [Instr.box,newVar,newRow,Sem.run_bind,run_newObj,Result.andThen_ok,Sem.run_pure,c1,aZ.obj,ç.den];rfl}};{cases h});(case h_6=>split at h;{grind};{cases h});(case h_7 op t len parts hop=>split at h;{rename_i i ps hi hps;split at h;{rename_i e Z;split at h;{rename_i E I9;split at h;{rename_i F;simp only [Č,beq_eq,Qd3] at F;obtain ⟨⟨c1,c2⟩,M⟩:=F;have M:E.size≠0:=λe=>by{rw [e] at M;cases M};split at h;{rename_i cs hcs;simp only [Q.new.injEq] at h;obtain ⟨rfl,rfl,rfl⟩:=h;have ⟨O,h2⟩:=AA hT D (hT _ _ hi) Z hps I9 (œ c1) c2 M hcs hsc;exact ⟨_,by simp only [execOp,hop];exact fl O,λd=>⟨(hy d _ _).symm,rfl⟩,h2⟩};{cases h}};{cases h}};{cases h}};{cases h}};{cases h});(case h_8=>split at h;{unfold lG at h;grind};{cases h});(case h_9=>split at h;{unfold iY at h;grind};{cases h});(case h_10=>split at h<;>cases h);(case h_11=>split at h;{have key:∀{op xt} {p q:C},G_ T op xt p q≠.new sc b x:=by{intro op xt p q h;have hi:∀k m m',qv op k m m'≠.new sc b x:=λk m m' h=>by{cases op<;>cases h};have hn:∀neg k,Hb neg k p q≠.new sc b x:=λneg k h=>by{unfold Hb at h;split at h<;>(try split at h)<;>(try split at h)<;>cases h};unfold G_ at h;grind};grind};{cases h});(case h_12=>split at h<;>cases h);(case h_13=>split at h<;>cases h);(case h_14=>split at h<;>cases h);(case h_15=>split at h;{split at h<;>cases h};{cases h});(case h_16=>split at h<;>(try split at h)<;>(try split at h)<;>cases h);(case h_17 op t l c hop=>split at h;{rename_i i lv cv hi hl F;unfold FC at h;split at h;{rename_i e Z;split at h;{rename_i E I9;split at h;{rename_i k1 m1 k2 m2;split at h;{rename_i zs hzs;split at h;{cases h};{rename_i hcond;simp only [Qp0,beq_eq,Qd3,not_or] at hcond;obtain ⟨⟨g1,g2⟩,N⟩:=hcond;simp only [Q.new.injEq] at h;obtain ⟨rfl,rfl,rfl⟩:=h;have N:E.size=zs.length:=by{rcases hb:Nat.beq E.size zs.length with _|_;{rw [hb] at N;exact Å rfl N};{exact beq_eq.1 hb}};refine ⟨_,?_,λd=>⟨(hy d _ _).symm,rfl⟩,λs u=>by simp [ç.ids] at u⟩;simp only [execOp,hop,D.eval hl,D.eval F];exact fl (DW (P:=P) (w:=w) (β:=β) hT (hT _ _ hi) Z I9 (k1:=k1) (k2:=k2) (l:=m1) (c:=m2) g1 g2 hzs N (hsc _ ψ) (hsc _ ψ) (hsc _ ψ))}};{cases h}};{cases h}};{cases h}};{cases h}};{cases h});(case h_18=>split at h;{split at h;{split at h;{unfold xG at h;split at h<;>(try split at h)<;>(try split at h)<;>cases h};{cases h}};{cases h}};{cases h});(case h_19=>split at h;{grind};{cases h});(case h_20=>split at h;{split at h<;>grind};{cases h});(case h_21=>split at h;{unfold iX at h;grind};{cases h});(case h_22=>split at h<;>(try split at h)<;>(try split at h)<;>cases h);(case h_23=>split at h;{split at h;{split at h;{split at h;{split at h;{unfold cW at h;grind};{cases h}};{cases h}};{cases h}};{cases h}};{grind [oR]};{split at h;{split at h;{unfold nO at h;grind};{cases h}};{cases h}};{cases h});(case h_24=>split at h;{split at h<;>cases h};{unfold nP at h;grind};{cases h});(case h_25=>split at h;{unfold B9 at h;split at h;{cases h};{split at h<;>cases h}};{cases h});(case h_26=>cases h)
def eu:Q->Nat
 | .fail=>0|.ret ..=>1|.new ..=>2|.zd ..=>3|.rd ..=>4|.tm ..=>5|.app ..=>6|.xB ..=>6
def um {op:BinOp}{k:IntKind}{x y:Int}:eu (qv op k x y)<=1:=by cases op<;>exact Ù _
def Kf {neg:md}{k:TK}{x y:C}:eu (Hb neg k x y)<=1:=by
 unfold Hb;split<;>(try split)<;>(try split)<;>first|exact Ù _|exact á _
def tA {i:TI}{cs:zA C}{k:Int}:eu (nP T i cs k)<=1:=by unfold nP;split;{split;{split;{(split<;>first|exact Ù _|exact á _)};{exact á _}};{exact á _}};{exact á _}
def vW {op:BinOp}{u:TypeId}{x y:C}:eu (G_ T op u x y)<=1:=by unfold G_;split;{split;{split;{split;{exact um};{exact um};{split;{exact um};{exact á _}}};{exact á _}};{split;{(split<;>first|exact Ù _|exact á _)};{exact á _}};{split;{exact Kf};{exact Kf};{exact á _}}};{exact á _}
def CD {sz:Nat}{x:SV}{lo hi mx:Option SV}:eu (xG sz x lo hi mx)<=1:=by
 unfold xG;split<;>(try split)<;>(try split)<;>first|exact Ù _|exact á _
def qX {i:TI}{x u:SV}:eu (iX T i x u)<=1:=by
 unfold iX;split<;>(try split)<;>(try split)<;>(try split)<;>first|exact Ù _|exact á _
def vX {b:Builtin}{k:TK}{xs:zA SV}:eu (nO b k xs)<=1:=by
 unfold nO;split<;>(try split)<;>(try split)<;>(try split)<;>first|exact Ù _|exact á _
def P_ {i:TI}{l c:SV}:eu (FC T i l c)=0\/eu (FC T i l c)=2:=by
 unfold FC;split<;>(try split)<;>(try split)<;>(try split)<;>(try split)<;>first|exact .inl rfl|exact .inr rfl
theorem CE {bx:Nat->Option aZ}{i:TI}{a x:SV}:eu (iY bx i a x)=0\/eu (iY bx i a x)=3:=by
 unfold iY;split<;>(try split)<;>(try split)<;>(try split)<;>(try split)<;>first|exact .inl rfl|exact .inr rfl
theorem FY {bx:Nat->Option aZ}{i:TI}{x:SV}:eu (lG bx i x)=0\/eu (lG bx i x)=1\/eu (lG bx i x)=4\/eu (lG bx i x)=5:=by
 unfold lG;split<;>(try split)<;>(try split)<;>(try split)<;>first|exact .inl rfl|exact .inr (.inl rfl)|exact .inr (.inr (.inl rfl))|exact .inr (.inr (.inr rfl))
def qW {bx:Nat->Option aZ}{e:TypeId}{u:TI}{b x:SV}:eu (cW bx e u b x)=0\/eu (cW bx e u b x)=6:=by unfold cW;split;{exact .inl rfl};{split;{exact .inl rfl};{dsimp only;split;{exact .inl rfl};{(split<;>(try split)<;>(try split)<;>first|exact .inl rfl|exact .inr rfl)}}}
theorem CC {bx:Nat->Option aZ}{t:TypeId}{x:SV}:eu (oQ T bx t x)=0\/eu (oQ T bx t x)=3:=by
 rcases oR (T:=T) (bx:=bx) (t:=t) (x:=x) with e|⟨_,_,_,e⟩<;>rw [e]<;>first|exact .inl rfl|exact .inr rfl
def h_ {ρ:Operand->Option SV}{bx:Nat->Option aZ}{op:Op}:(eu (aT T ρ bx op)=3->((∃t a x,op=.store t a x)\/∃c,op=.call c/\c.callee=.builtin .clear))/\(eu (aT T ρ bx op)=4\/eu (aT T ρ bx op)=5->∃t a,op=.load t a)/\(eu (aT T ρ bx op)=6->∃c,op=.call c/\c.callee=.builtin .append):=by
 have u:∀{q:Q},eu q<=1->(eu q=3->((∃t a x,op=.store t a x)\/∃c,op=.call c/\c.callee=.builtin .clear))/\(eu q=4\/eu q=5->∃t a,op=.load t a)/\(eu q=6->∃c,op=.call c/\c.callee=.builtin .append):=χ
 have y:∀{q:Q},eu q=0\/eu q=2->(eu q=3->((∃t a x,op=.store t a x)\/∃c,op=.call c/\c.callee=.builtin .clear))/\(eu q=4\/eu q=5->∃t a,op=.load t a)/\(eu q=6->∃c,op=.call c/\c.callee=.builtin .append):=by intro q h;exact ⟨ω,ω,ω⟩
 unfold aT;split
 case h_8=>
  split
  ·grind [FY]
  ·exact u (á _)
 case h_9=>
  split
  ·grind [CE]
  ·exact u (á _)
 case h_11=>
  split
  ·split;{split;{exact u vW};{exact u (á _)}};{exact u vW}
  ·exact u (á _)
 case h_17=>
  split
  ·exact y P_
  ·exact u (á _)
 case h_18=>
  split
  ·split;{split;{exact u CD};{exact u (á _)}};{exact u (á _)}
  ·exact u (á _)
 case h_21=>
  split
  ·exact u qX
  ·exact u (á _)
 case h_23 c=>
  split
  ·rename_i D;refine ⟨λh=>?_,λh=>?_,λ_=>⟨c,rfl,D⟩⟩;{exfalso;(split at h<;>(try split at h)<;>(try split at h)<;>(try split at h)<;>first|(rcases qW (bx:=bx) with z|z<;>(rw [z] at h;cases h))|cases h)};{exfalso;(split at h<;>(try split at h)<;>(try split at h)<;>(try split at h)<;>first|(rcases qW (bx:=bx) with z|z<;>(rw [z] at h;rcases h with h|h<;>cases h))|(rcases h with h|h<;>cases h))}
  ·rename_i D;split;{grind [CC]};{exact u (á _)}
  ·split;{split;{exact u vX};{exact u (á _)}};{exact u (á _)}
  ·exact u (á _)
 case h_24=>
  split
  ·split;{exact u (Ù _)};{exact u (á _)}
  ·exact u tA
  ·exact u (á _)
 case h_25=>
  split
  ·unfold B9;split;{exact u (á _)};{split;{exact u (Ù _)};{exact u (á _)}}
  ·exact u (á _)
 all_goals
  first
  | exact u (á _)
  | ((repeat' split)<;>first|exact u (á _)|exact u (Ù _)|exact y (.inr rfl))
def Mf (hT:dT.ok P T)(hM:ß n V0 bQ β0 st β a w V){t:TypeId}{x:SV}{sc:zA Prop}{s:Nat}{b:aZ}(h:oQ T st.boxes t x=.zd sc s b)(hsc:∀p∈sc,p)(ty:TypeId)(cs:Array md):∃w',(builtin .clear #[t] ty cs #[x.den β]).run P w=.ok (.value (.tuple #[])) w'/\ß n V0 bQ β0 (st.box s b) β a w' V:=by unfold oQ at h;split at h;{rename_i i M;split at h;{rename_i e F;split at h;{rename_i r N;split at h;{rename_i q g o k c O;split at h;{rename_i j G H;split at h;{cases h};{rename_i I;simp only [Q.zd.injEq] at h;obtain ⟨rfl,rfl,rfl⟩:=h;simp only [Qp0,beq_eq,Ľ,not_or,Bool.not_eq_false,ĥ] at I;obtain ⟨⟨c1,J⟩,c3⟩:=I;have ⟨info,d,z,h1,K,h3,R,h5,h6,h7⟩:=aL (hT _ _ M);have ⟨S,ed,A,U,e2,W,e4,X,e6,Y⟩:=aL (hT _ _ N);rw [R] at F;obtain rfl:=bj F;have ⟨L,z2⟩:=fP (β:=β) Y;obtain ⟨d1,-⟩:=fZ (β:=β) O;have Z:A.cells.size=S.size:=by{rw [<-L,d1];simp [<-X,J]};have a0:A.cells.toList=q:=by{rw [<-d1,<-L]};have hle:o+k*r.size<=j.length:=hsc _ ψ;have u:∀m,(uB m q).length=m*r.size:=λm=>by{rw [oX,J];simp [Ww4]};have B:∀v∈uB k q,v.oneCell'=true:=λv D=>by{rw [oX] at D;have ⟨l,hl,D⟩:=List.mem_flatten.1 D;grind};have f:=hM.row H dH;have key:=run_storeCells_at (P:=P) (β g) o G (uB k q) 0 j.toArray w f (by simpa [u] using hle) B;simp only [ě,u] at key;refine ⟨w.setRow (β g) (j.take o++uB k q++j.drop (o+k*r.size)).toArray,?_,hM.zd H dH (by intro s' E;simp [ç.ids] at E) (by rw [lJ f];rfl) rfl rfl rfl⟩;have y:(Builtin.clear_ #[t] ty #[SV.den β (.c (.mQ g o k c))]).run P w=.ok (.tuple #[]) (w.setRow (β g) (j.take o++uB k q++j.drop (o+k*r.size)).toArray):=by{(cases k with|zero=>{have e0:(j.take o++uB 0 q++j.drop (o+0*r.size)).toArray=j.toArray:=by{rw [oX];simp};rw [e0,setRow_self w (β g) j.toArray G (0,0) f];simp [Builtin.clear_,ai K,SV.den,C.den]}|succ k=>{have ek:(Builtin.zeroCells A.cells (k+1)).toList=uB (k+1) q:=by{grind [Builtin.zeroCells,wM,oX]};simp only [Ĕ] at key ⊢;simp [Builtin.clear_,ai K,SV.den,C.den,(kN U W w),ek,key]})};simp only [builtin];exact fl y}};{cases h}};{cases h}};{cases h}};{cases h}};{cases h}
def PV (hT:dT.ok P T)(F:ß n V0 bQ β0 st β a w V){o:Oper}{sc:zA Prop}{s:Nat}{b:aZ}(h:aT T st.bJ st.boxes o.op=.zd sc s b)(hsc:∀p∈sc,p):∃M w',(execOp a.eval o).run P w=.ok M w'/\(M=.skip\/∃v,M=.value v)/\ß n V0 bQ β0 (st.box s b) β a w' V:=by rcases (h_ (T:=T) (ρ:=st.bJ) (bx:=st.boxes) (op:=o.op)).1 (by rw [h];rfl) with ⟨t,y,x,d⟩|⟨c,d,k⟩;{rw [d] at h;simp only [aT] at h;split at h;{rename_i i C D l m e;have ⟨w',f,q⟩:=Mh F (hT _ _ l) (F.live e) h hsc;refine ⟨.skip,w',?_,.inl rfl,q⟩;simp only [execOp,d,F.eval m,F.eval e];exact run_u f};{cases h}};{obtain ⟨E,args,r⟩:=c;dsimp only at k;subst k;rw [d] at h;simp only [aT] at h;split at h;{rename_i x t g j;obtain ⟨f,-⟩:=hZ F _ _ g;have u:r=#[t]:=by{apply ľ;exact j};have z:args.map a.eval=#[x.den β]:=by{apply ľ;rw [Qd9];exact f};have ⟨w',A,B⟩:=Mf hT F h hsc o.type (args.map λ|.const _=>true|_=>false);refine ⟨.value (.tuple #[]),w',?_,.inr ⟨_,rfl⟩,B⟩;simp only [execOp,d,resolve,pure_bind,invoke,u,z];exact A};{cases h}}
def Ty (hT:dT.ok P T)(u:ß n V0 bQ β0 st β a w V){o:Oper}{p:OA}{sh:Ar}(h:aT T st.bJ st.boxes o.op=.rd p sh){x:SV}{k:Prop}(z:x.ids=[])(D:(∃c,x=.c c/\∃s',sh=.one s')\/∃cs l,x=.agg cs/\sh=.agg l/\cs.length=l.length)(E:V.Wp p x k):(execOp a.eval o).run P w=.ok (.value (x.den β)) w/\k:=by obtain ⟨t,y,b⟩:=(h_ (T:=T) (ρ:=st.bJ) (bx:=st.boxes) (op:=o.op)).2.1 (by rw [h];exact .inl rfl);rw [b] at h;simp only [aT] at h;split at h;{rename_i i m d e;unfold lG at h;split at h;{grind};{split at h;{rename_i f;simp only [Q.rd.injEq] at h;obtain ⟨rfl,rfl⟩:=h;have ⟨g,j⟩:=ZK u (hT _ _ d) (beq_eq.1 f) z D E;refine ⟨?_,j⟩;simp only [execOp,b,u.eval e];exact fl g};{cases h}};{cases h}};{cases h}
def JP (hT:dT.ok P T)(u:ß n V0 bQ β0 st β a w V){o:Oper}{vs:zA un}{of size:Nat}{sh:Ar}(h:aT T st.bJ st.boxes o.op=.tm vs of size sh){x:SV}(z:x.ids=[])(D:(∃c,x=.c c/\∃s',sh=.one s')\/∃cs l,x=.agg cs/\sh=.agg l/\cs.length=l.length)(E:Wy vs of size x):(execOp a.eval o).run P w=.ok (.value (x.den β)) w:=by obtain ⟨t,y,b⟩:=(h_ (T:=T) (ρ:=st.bJ) (bx:=st.boxes) (op:=o.op)).2.1 (by rw [h];exact .inr rfl);rw [b] at h;simp only [aT] at h;split at h;{rename_i i m f g;unfold lG at h;split at h;{split at h;{grind};{rename_i d;simp only [Q.tm.injEq] at h;obtain ⟨rfl,rfl,rfl,rfl⟩:=h;have j:=FD u (hT _ _ f) (.inl d) z D E;simp only [execOp,b,u.eval g];exact fl j};{rename_i d;split at h;{cases h};{rename_i k;simp only [Q.tm.injEq] at h;obtain ⟨rfl,rfl,rfl,rfl⟩:=h;simp only [execOp,b,u.eval g];exact fl (FD u (hT _ _ f) (.inr ⟨d,λe=>k (by rw [e];rfl)⟩) z D E)}};{cases h}};{split at h<;>cases h};{cases h}};{cases h}
end
end Go.Eng
