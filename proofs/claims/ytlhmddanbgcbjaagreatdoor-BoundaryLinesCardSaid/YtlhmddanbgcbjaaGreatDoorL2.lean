import Derived.Test.YtlhmddanbgcbjaaGreatDoorL1
set_option linter.all false
open Go.IntKind (i64 u64 u32)
namespace Go.Eng
variable {P:Program} {T:eu} {n:Nat} {V0:View} {bQ:J8} {β0:Nat->Nat} {st:St} {β:Nat->Nat} {a:Act} {w:World} {V:View}
theorem gJ (b o k:Nat):(⟨b,o,none⟩:Addr).add k=⟨b,o+k,none⟩:=by unfold Addr.add;split;{rename_i h;subst h;rfl};{rfl}
theorem cell_of_row {g o:Nat}{vs:pz un}{ty:TypeId}(h:w.heap[g]?=some (.cells vs.toArray ty (0,0))):w.cell? ⟨g,o,none⟩=vs[o]?:=by simp [World.cell?,h]
theorem Iy {g o m:Nat}{vs:pz un}{ty t:TypeId}{info:TypeInfo}{d:TypeDesc}(h:w.heap[g]?=some (.cells vs.toArray ty (0,0)))
  (h1:P.info? t=some info)(h2:P.underlying t=some d)(hm:info.size=m)(hk:vN (mI d)=true)(hl:o+m<=vs.length) :
  (loadVar t ⟨g,o,none⟩).run P w=.ok (.agg ((vs.drop o).take m).toArray) w:=by
 subst hm
 have key:=run_loadCells_list (P:=P) (w:=w) ⟨g,o,none⟩ ((vs.drop o).take info.size) (by
  intro j v a;rw [gJ,cell_of_row h];rw [Qy7] at a;split at a
  ·rw [Qn8] at a;exact a
  ·cases a)
 rw [Qq7,Qb5,Qj3 (by omega)] at key;simp only [loadVar,Sem.run_bind,jh h2,Result.andThen_ok,hk,if_true,aR h1,key,Sem.run_pure]
def EI {g o:Nat}{vs:pz un}{ty t:TypeId}{d:TypeDesc}{v:un}(h:w.heap[g]?=some (.cells vs.toArray ty (0,0)))
  (h2:P.underlying t=some d)(hk:vN (mI d)=false)(hv:vs[o]?=some v) :
  (loadVar t ⟨g,o,none⟩).run P w=.ok v w:=by simp only [loadVar,Sem.run_bind,jh h2,Result.andThen_ok,hk,Qj0,if_false,run_load,cell_of_row h,hv]
def Mod.row (hM:Mod n V0 bQ β0 st β a w V){s:Nat}{b:aW}(hb:st.boxes s=some b)(lb:b.live):w.heap[β s]?=some (.cells (b.cs.den β).toArray b.ty (0,0)):=hM.boxes s b hb lb
def uk {cs:pz C}{c:C}{s:Nat}(hc:c∈cs)(hs:s∈c.ids):s∈cs.flatMap C.ids:=Qy1.2 ⟨c,hc,hs⟩
def ER (hM:Mod n V0 bQ β0 st β a w V){t:TypeId}{i:TI}(hi:ou P t=some i){x:SV}{sc:pz Prop}{v:SV}(h:lD st.boxes i x=.ret sc v) :
  (Instr.loadAt t (x.den β)).run P w=.ok (v.den β) w/\Live st v:=by
 obtain ⟨info,d,z,B,y,D,A,E,-⟩:=aI hi;unfold lD at h;split at h
 ·rename_i b o;split at h
  ·rename_i cs ty r;have f:=hM.row r dM;have e:=hM.CK b _ r;simp only [Cells.den] at f
   have g:vN i.k=true->(if Nat.ble (o+i.size) cs.length then Q.ret [] (.agg ((cs.drop o).take i.size)) else .fail)=.ret sc v ->
     (Instr.loadAt t (SV.den β (.c (.ptr b o)))).run P w=.ok (v.den β) w/\Live st v:=by
    intro j h;split at h
    ·rename_i u;have u:=Qk0 u;simp only [Q.ret.injEq] at h;obtain ⟨-,rfl⟩:=h;refine ⟨?_,?_⟩;{grind [Iy,Instr.loadAt,Instr.sureAddr,SV.den,C.den,List.map_take,List.map_drop]};{intro s l;have ⟨c,m,l⟩:=Qy1.1 l;exact e s (uk (Qp3 (Qn6 m)) l)}
    ·cases h
   split at h
   ·rename_i j;exact g (by rw [j];rfl) h
   ·rename_i j;exact g (by rw [j];rfl) h
   ·rename_i p q;have j:vN i.k=false:=by{(cases hik:i.k<;>first|rfl|exact absurd hik (p _)|exact absurd hik (q _ _))};split at h;{rename_i c m;simp only [Q.ret.injEq] at h;obtain ⟨-,rfl⟩:=h;refine ⟨?_,?_⟩;{have:=EI (t:=t) (o:=o) (v:=c.den β) f y (A▸j) (by simp [m]);grind [Instr.loadAt,Instr.sureAddr,SV.den,C.den]};{intro s l;exact e s (uk (Qv6 m) l)}};{cases h}
  ·cases h
  ·split at h<;>cases h
  ·cases h
 ·split at h<;>cases h
 ·cases h
def CF.fA:∀(s:CF) {K:C->Prop},s.ex K->∃c,c.ids=[]/\K c
 | .int _,_,⟨_,h⟩=>⟨_,rfl,h⟩
 | .bool,_,⟨_,h⟩=>⟨_,rfl,h⟩
 | .slice,_,⟨_,_,_,h⟩=>⟨_,rfl,h⟩
 | .ptr,_,⟨_,h⟩=>⟨_,rfl,h⟩
 | .str,_,⟨_,h⟩=>⟨_,rfl,h⟩
 | .any,_,⟨_,h⟩=>⟨_,rfl,h⟩
def uj:∀(l:pz CF) {K:pz C->Prop},XA l K->∃cs,cs.flatMap C.ids=[]/\cs.length=l.length/\K cs
 | [],_,h=>⟨[],rfl,rfl,h⟩
 | s::r,K,h=>by
  have ⟨c,hc,h'⟩:=CF.fA s h;have ⟨cs,a,b,d⟩:=uj r h';grind
def zJ.fA:∀(s:zJ) {K:SV->Prop},s.ex K->∃x,x.ids=[]/\((∃c,x=.c c/\∃s',s=.one s')\/∃cs l,x=.agg cs/\s=.agg l/\cs.length=l.length)/\K x
 | .one s,K,h=>by have ⟨c,hc,h'⟩:=CF.fA s h;exact ⟨.c c,hc,.inl ⟨c,rfl,s,rfl⟩,h'⟩
 | .agg l,K,h=>by have ⟨cs,a,b,h'⟩:=uj l h;exact ⟨.agg cs,a,.inr ⟨cs,l,rfl,rfl,b⟩,h'⟩
def Au:∀(l:pz zJ) {K:pz (md×pz C)->Prop},Ze l K->∃xs,(xs.flatMap λx=>x.2.flatMap C.ids)=[]/\K xs
 | [],_,h=>⟨[],rfl,h⟩
 | .one s::r,K,h=>by
  have ⟨c,hc,h'⟩:=CF.fA s h;have ⟨xs,a,b⟩:=Au r h';grind
 | .agg l::r,K,h=>by
  obtain ⟨cs,hc,-,h'⟩:=uj l h;have ⟨xs,a,b⟩:=Au r h';grind
def Sh.fA:∀(s:Sh) {K:SV->Prop},s.ex K->∃x,x.ids=[]/\K x
 | .val s,K,h=>by obtain ⟨x,hx,-,h'⟩:=zJ.fA s h;exact ⟨x,hx,h'⟩
 | .vL l,K,h=>by have ⟨xs,hx,h'⟩:=Au l h;exact ⟨.vL xs,hx,h'⟩
 | .none,K,h=>⟨.vL [],rfl,h⟩
theorem j9 {x:SV}(h:x.ids=[])(β β':Nat->Nat):x.den β=x.den β':=SV.bZ λs a=>by rw [h] at a;cases a
def ct {x:SV}(h:x.ids=[]):Live st x:=λs a=>by rw [h] at a;cases a
def I5:∀(cs:pz C) (p:Addr) (i:Nat) {k:Prop},V.U6 p i cs k->(∀j c,cs[j]?=some c->V.at (p.add (i+j)) (c.den λ_=>0))/\k
 | [],_,_,_,h=>⟨λj c hj=>by simp at hj,h⟩
 | c::r,p,i,k,⟨h1,h2⟩=>by
  have ⟨h3,h4⟩:=I5 r p (i+1) h2;grind
theorem Mod.atV (hM:Mod n V0 bQ β0 st β a w V){p:Addr}{v:un}(h:V.at p v):w.cell? p=some v:=by obtain ⟨d,b⟩:=h;unfold World.cell? at b ⊢;split at b;{rename_i c e f g;rw [(hM.qZ p.block _ ⟨d,g⟩).1];exact b};{cases b}
def M_ {i:TI}{l:pz CF}(h:nD i=.agg l):vN i.k=true/\l.length=i.zero.length:=by unfold nD at h;split at h;{rename_i a;simp only [zJ.agg.injEq] at h;subst h;exact ⟨by rw [a];rfl,by simp⟩};{rename_i a;simp only [zJ.agg.injEq] at h;subst h;exact ⟨by rw [a];rfl,by simp⟩};{split at h<;>cases h}
def Na {i:TI}{s:CF}(h:nD i=.one s):vN i.k=false:=by unfold nD at h;split at h;{cases h};{cases h};{rename_i a b;(cases hik:i.k<;>first|rfl|exact absurd hik (a _)|exact absurd hik (b _ _))}
def YT (hM:Mod n V0 bQ β0 st β a w V){t:TypeId}{i:TI}(hi:ou P t=some i)(hz:i.zero.length=i.size){p:OA}{x:SV}{k:Prop}
  (hx:x.ids=[])(hs:(∃c,x=.c c/\∃s',nD i=.one s')\/∃cs l,x=.agg cs/\nD i=.agg l/\cs.length=l.length)(h:V.U5 p x k) :
  (Instr.loadAt t (.pointer p)).run P w=.ok (x.den β) w/\k:=by
 obtain ⟨info,d,z,r,o,F,q,u,-⟩:=aI hi;rcases hs with ⟨c,rfl,s,hs⟩|⟨cs,l,rfl,hs,y⟩
 ·obtain ⟨⟨f,rfl,g⟩,A⟩:=h;have b:=Na hs;rw [q] at b;refine ⟨?_,A⟩;simp only [Instr.loadAt,Instr.sureAddr,Sem.run_bind,Sem.run_pure,Result.andThen_ok,loadVar,jh o,b,Qj0,if_false,run_load,hM.atV g];rw [j9 hx β λ_=>0];rfl
 ·obtain ⟨f,rfl,B⟩:=h;have ⟨b,m⟩:=M_ hs;rw [q] at b;have ⟨D,E⟩:=I5 cs f 0 B;refine ⟨?_,E⟩
  have key:=run_loadCells_list (P:=P) (w:=w) f (cs.map (C.den λ_=>0)) (by
   intro j v e;rw [Qs6] at e
   cases hc:cs[j]? with
   | none=>rw [hc] at e;cases e
   | some c=>
    rw [hc] at e;simp only [Wq5,Qw1] at e;subst e;have:=hM.atV (D j c hc);simpa using this)
  rw [Qy5,y,m,hz,u] at key;simp only [Instr.loadAt,Instr.sureAddr,Sem.run_bind,Sem.run_pure,Result.andThen_ok,loadVar,jh o,b,if_true,aR r,key];rw [j9 hx β λ_=>0];rfl
def ET (hM:Mod n V0 bQ β0 st β a w V){t:TypeId}{i:TI}(hi:ou P t=some i){b o:Nat}{vs:pz un}{ty:TypeId}(hb:st.boxes b=some ⟨.row vs,ty⟩\/(st.boxes b=some ⟨.aB vs,ty⟩/\i.size≠0)){x:SV}
  (hx:x.ids=[])(hs:(∃c,x=.c c/\∃s',nD i=.one s')\/∃cs l,x=.agg cs/\nD i=.agg l/\cs.length=l.length)(h:Vd vs o i.size x) :
  (Instr.loadAt t (SV.den β (.c (.ptr b o)))).run P w=.ok (x.den β) w:=by obtain ⟨info,d,z,p,j,A,k,q,-⟩:=aI hi;have g:w.heap[β b]?=some (.cells vs.toArray ty (0,0)):=by{rcases hb with hb|⟨hb,B⟩;{exact hM.row hb dN};{refine hM.row hb (fZ λe=>?_);subst e;rcases hs with ⟨c,rfl,s,hs⟩|⟨cs,l,rfl,hs,r⟩;{simp [Vd] at h};{have:=h.1;simp at this;omega}}};rcases hs with ⟨c,rfl,s,hs⟩|⟨cs,l,rfl,hs,r⟩;{have f:=Na hs;rw [k] at f;have:=EI (t:=t) (o:=o) g j f h;rw [show SV.den β (.c c)=C.den (λ_=>0) c from j9 (x:=.c c) hx β _];show (Instr.loadAt t (.pointer (some ⟨β b,o,none⟩))).run P w=_;grind [Instr.loadAt,Instr.sureAddr]};{have ⟨f,u⟩:=M_ hs;rw [k] at f;obtain ⟨v,y⟩:=h;have:=Iy (t:=t) (o:=o) (m:=i.size) g p j q.symm f v;simp only [Instr.loadAt,Instr.sureAddr,C.den,SV.den,Sem.run_bind,Sem.run_pure,Result.andThen_ok,this,y];have:=j9 (x:=.agg cs) hx β λ_=>0;grind [SV.den]}
def YM {c:C}(h:∀p∈gV c,p):(c.den β).oneCell'=true:=by (cases c with|v x=>{(cases x<;>first|rfl|exact (h False (by simp [gV])).elim)}|w x=>{exact h (x.oneCell'=true) (by simp [gV])}|_=>rfl)
def NW {v:un}(h:v.oneCell'=true):v.cells=#[v]:=by cases v<;>first|rfl|simp [Value.oneCell'] at h
def SV.v_ {x:SV}(ht:x.AG=false)(h:∀p∈x.gV,p):(x.den β).cells=(x.cells.map (C.den β)).toArray/\∀v∈x.cells.map (C.den β),v.oneCell'=true:=by have b:∀c∈x.cells,(c.den β).oneCell'=true:=λc a=>YM λp d=>h p (Qy1.2 ⟨c,a,d⟩);refine ⟨?_,λv e=>by obtain ⟨c,a,rfl⟩:=Qz1.1 e;exact b c a⟩;(cases x with|c c=>{exact NW (b c (by simp [SV.cells]))}|agg cs=>rfl|vL xs=>{cases ht})
def lH {g:Nat}{old cs:Array un}{ty:TypeId}(h:w.heap[g]?=some (.cells old ty (0,0))):(w.setRow g cs).heap=w.heap.setIfInBounds g (.cells cs ty (0,0)):=by apply Array.ext_getElem?;grind [setRow_heap,setRow_other]
theorem gj {cs:pz C}{vs:pz un}(h:mu cs=some vs):cs.map (C.den β)=vs/\cs.flatMap C.ids=[]:=by
 induction cs generalizing vs with
 | nil=>simp [mu] at h;subst h;exact ⟨rfl,rfl⟩
 | cons c r ih=>
  simp only [mu] at h;split at h
  ·rename_i v ws b a;simp only [Qw1] at h;subst h;have ⟨d,e⟩:=ih a;have:c.den β=v/\c.ids=[]:=by{cases c<;>simp_all [C.val?,C.den,C.ids]};grind
  ·cases h
theorem uU {cs xs:pz C}{o:Nat}:(setCells cs o xs).map (C.den β)=(cs.map (C.den β)).take o++xs.map (C.den β)++(cs.map (C.den β)).drop (o+xs.length):=by simp [setCells,Wy1,Wy2]
def uT {cs xs:pz C}{o s:Nat}(h:s∈(setCells cs o xs).flatMap C.ids):s∈cs.flatMap C.ids\/s∈xs.flatMap C.ids:=by have ⟨c,a,b⟩:=Qy1.1 h;simp only [setCells,Qw3] at a;grind
def tj {vs xs:pz un}{o:Nat}(h:o+xs.length<=vs.length:=by omega):eK vs o xs=vs.take o++xs++vs.drop (o+xs.length):=by unfold eK;grind [List.set_eq_take_append_cons_drop]
def SV.wb {x:SV}{s:Nat}(ht:x.AG=false):s∈x.cells.flatMap C.ids->s∈x.ids:=by cases x<;>grind [SV.cells,SV.ids]
def K6 (hM:Mod n V0 bQ β0 st β a w V){t:TypeId}{i:TI}(hi:ou P t=some i){av xv:SV}(hx:Live st xv){sc:pz Prop}{s:Nat}{b:aW}
  (h:je st.boxes i av xv=.yw sc s b)(hsc:∀p∈sc,p) :
  ∃w',(Instr.storeAt t (av.den β) (xv.den β)).run P w=.ok () w'/\Mod n V0 bQ β0 (st.box s b) β a w' V:=by
 obtain ⟨info,d,z,W,Y,Z,h4,h5,-⟩:=aI hi;unfold je at h;split at h
 ·rename_i g o;split at h
  ·rename_i k;simp only [Qx1,beq_eq,Qc3] at k;obtain ⟨hlen,y⟩:=k
   have core:∀(j:pz un)(ty:TypeId)(L:aW),w.heap[β g]?=some (.cells j.toArray ty (0,0))->(∀p∈xv.gV,p)->o+xv.cells.length<=j.length->L.ty=ty ->
     L.cs.den β=j.take o++xv.cells.map (C.den β)++j.drop (o+xv.cells.length) ->
     ∃w',(Instr.storeAt t (SV.den β (.c (.ptr g o))) (xv.den β)).run P w=.ok () w'/\w'.heap=w.heap.setIfInBounds (β g) (L.obj β)/\w'.os=w.os/\w'.tape=w.tape/\w'.output=w.output/\w.drawn<=w'.drawn:=by
    intro j ty L f A hle N B;have ⟨D,O⟩:=SV.v_ (β:=β) y A;have key:=run_storeCells_at (P:=P) (β g) o ty (xv.cells.map (C.den β)) 0 j.toArray w f (by simpa using hle) O;refine ⟨w.setRow (β g) (j.take o++xv.cells.map (C.den β)++j.drop (o+xv.cells.length)).toArray,?_,?_⟩
    ·generalize xv.den β=v at D;show (Instr.storeAt t (.pointer (some ⟨β g,o,none⟩)) v).run P w=_;simp only [Instr.storeAt,Instr.sureAddr,Sem.run_bind,Sem.run_pure,Result.andThen_ok,storeVar,aR W,D];grind
    ·exact ⟨by rw [lH f,aW.obj,B,N],rfl,rfl,rfl,Qq2 _⟩
   split at h
   ·rename_i cs ty q;split at h;{rename_i R;have R:=Qk0 R;simp only [Q.yw.injEq] at h;obtain ⟨rfl,rfl,rfl⟩:=h;have f:=hM.row q dM;have ⟨w',E,F,G,H,I,J⟩:=core _ _ ⟨.lit (setCells cs o xv.cells),ty⟩ f hsc (by simpa [Cells.den,hlen] using R) rfl (by simp only [Cells.den];exact uU);refine ⟨w',E,hM.yw q dM ?_ F G H I J⟩;intro M l;rcases uT l with S|S;{exact hM.CK _ _ q M S};{exact hx M (SV.wb y S)}};{cases h}
   ·rename_i x ty q;split at h
    ·rename_i xs r;simp only [Q.yw.injEq] at h;obtain ⟨rfl,rfl,rfl⟩:=h;have f:=hM.row q dN;have ⟨m,T⟩:=gj (β:=β) r;have hle:o+i.size<=x.length:=hsc _ (by simp);have u:xs.length=i.size:=by rw [←m,Qy5,hlen]
     have ⟨w',E,F,G,H,I,J⟩:=core _ _ ⟨.row (eK x o xs),ty⟩ f (λp U=>hsc p (Qz5 _ U)) (by simpa [Cells.den,hlen] using hle) rfl (by
      simp only [Cells.den];rw [tj,m,hlen,u])
     exact ⟨w',E,hM.yw q dN (by intro M l;simp [Cells.ids] at l) F G H I J⟩
    ·cases h
   ·rename_i x ty q;split at h
    ·cases h
    rename_i X;split at h
    ·rename_i xs r;simp only [Q.yw.injEq] at h;obtain ⟨rfl,rfl,rfl⟩:=h;have ⟨m,T⟩:=gj (β:=β) r;have hle:o+i.size<=x.length:=hsc _ (by simp)
     have K:aW.live ⟨.aB x,ty⟩:=fZ λe=>by subst e;simp at hle;exact X (by rw [hle.2];rfl)
     have f:=hM.row q K;have u:xs.length=i.size:=by rw [←m,Qy5,hlen]
     have ⟨w',E,F,G,H,I,J⟩:=core _ _ ⟨.aB (eK x o xs),ty⟩ f (λp U=>hsc p (Qz5 _ U)) (by simpa [Cells.den,hlen] using hle) rfl (by
      simp only [Cells.den];rw [tj,m,hlen,u])
     exact ⟨w',E,hM.yw q K (by intro M l;simp [Cells.ids] at l) F G H I J⟩
    ·cases h
   ·cases h
  ·cases h
 ·cases h
end Go.Eng
namespace Go.Eng
variable {P:Program} {T:eu} {n:Nat} {V0:View} {bQ:J8} {β0:Nat->Nat} {st:St} {β:Nat->Nat} {a:Act} {w:World} {V:View}
def Ob (xs:pz un):∀(cs:Array un)(off:Nat),off+xs.length<=cs.size ->
  (xs.toArray.zipIdx.foldl (λcs (p:un×Nat)=>cs.setIfInBounds (off+p.2) p.1) cs)=(cs.toList.take off++xs++cs.toList.drop (off+xs.length)).toArray:=by
 have gen:∀(xs:pz un)(k:Nat)(cs:pz un)(off:Nat),off+k+xs.length<=cs.length ->
   (xs.zipIdx k).foldl (λ(cs:Array un) (p:un×Nat)=>cs.setIfInBounds (off+p.2) p.1) cs.toArray=(cs.take (off+k)++xs++cs.drop (off+k+xs.length)).toArray:=by
  intro xs
  induction xs with
  | nil=>intro k cs off _;simp
  | cons x r ih=>
   intro k cs off h;simp only [Qw6] at h;simp only [List.zipIdx_cons,Qm5,List.setIfInBounds_toArray];rw [ih (k+1) (cs.set (off+k) x) off (by simp;omega)];congr 1;have a:off+k<cs.length:=by omega
   rw [Qr6,if_pos a]
   have b:(cs.take (off+k)++x::cs.drop (off+k+1)).take (off+(k+1))=cs.take (off+k)++[x]:=by rw [List.take_append,Qv4 (by simp;omega),Qq7,Qj3 (by omega),show off+(k+1)-(off+k)=1 from by omega];simp
   have c:(cs.take (off+k)++x::cs.drop (off+k+1)).drop (off+(k+1)+r.length)=cs.drop (off+k+(r.length+1)):=by rw [List.drop_append,Qx8 (by simp;omega),Qq7,Qj3 (by omega),show off+(k+1)+r.length-(off+k)=r.length+1 from by omega];grind [List.drop_drop]
   rw [b,c];simp
 intro cs off h;have:=gen xs 0 cs.toList off (by simpa using h);simpa [←Array.foldl_toList] using this
def qL {place:Nat->Option (Nat×Nat)}:∀(ps:pz (Nat×SV))(cells out:pz C),rJ place cells ps=some out ->
  (∀x∈ps,∀v:C,v∈x.2.cells->∀p∈gV v,p) ->
  Instr.fill place (cells.map (C.den β)).toArray (ps.map λx=>(x.1,x.2.den β))=some (out.map (C.den β)).toArray /\
  (∀s∈out.flatMap C.ids,s∈cells.flatMap C.ids\/∃x∈ps,s∈x.2.ids)
 | [],cells,out,h,_=>by
  simp only [rJ,Qw1] at h;subst h;exact ⟨rfl,λs hs=>.inl hs⟩
 | (i,x)::r,cells,out,h,hone=>by
  simp only [rJ] at h;split at h
  ·cases h
  ·rename_i off size hp;split at h
   ·rename_i hc;simp only [Qx1,beq_eq,Qc3] at hc;obtain ⟨⟨hl,hle⟩,hnt⟩:=hc;have hle:=Qk0 hle;have hnt:x.AG=false:=by simpa using hnt
    have e:∀p∈x.gV,p:=λp hp=>by
     have ⟨v,f,hp⟩:=Qy1.1 hp;exact hone (i,x) (by simp) v f p hp
    obtain ⟨b,-⟩:=SV.v_ (β:=β) hnt e;have ⟨j,g⟩:=qL r _ _ h (λy c=>hone y (Qq8 _ c));refine ⟨?_,?_⟩
    ·simp only [Qn3,Instr.fill,hp];rw [if_neg (by rw [b];simp [hl];omega)];rw [b];have:=Ob (x.cells.map (C.den β)) (cells.map (C.den β)).toArray off (by simpa [hl] using hle);grind [uU]
    ·intro s hs;rcases g s hs with d|⟨y,c,d⟩
     ·rcases uT d with a|a
      ·exact .inl a
      ·exact .inr ⟨(i,x),by simp,SV.wb hnt a⟩
     grind
   ·cases h
def mq (hM:Mod n V0 bQ β0 st β a w V):∀(l:pz (Nat×Operand))(ps:pz (Nat×SV)),partsOf st.bC l=some ps ->
  (l.map λx=>(x.1,a.eval x.2))=(ps.map λx=>(x.1,x.2.den β))/\∀x∈ps,Live st x.2
 | [],ps,h=>by simp only [partsOf,Qw1] at h;subst h;exact ⟨rfl,λx hx=>by cases hx⟩
 | (i,o)::r,ps,h=>by
  simp only [partsOf] at h;split at h
  ·rename_i x l hx hl;simp only [Qw1] at h;subst h;have ⟨h1,h2⟩:=mq hM r l hl;refine ⟨by simp [h1,hM.eval hx],λy b=>?_⟩;rcases Qq5.1 b with rfl|b
   ·exact hM.live hx
   ·exact h2 y b
  ·cases h
def iq (hM:Mod n V0 bQ β0 st β a w V):∀(l:pz Operand)(xs:pz SV),cR st.bC l=some xs ->
  l.map a.eval=xs.map (SV.den β)/\∀x∈xs,Live st x
 | [],xs,h=>by simp only [cR,Qw1] at h;subst h;exact ⟨rfl,λx hx=>by cases hx⟩
 | o::r,xs,h=>by
  simp only [cR] at h;split at h
  ·rename_i x l hx hl;simp only [Qw1] at h;subst h;have ⟨h1,h2⟩:=iq hM r l hl;refine ⟨by simp [h1,hM.eval hx],λy b=>?_⟩;rcases Qq5.1 b with rfl|b
   ·exact hM.live hx
   ·exact h2 y b
  ·cases h
def oQ (hT:eu.ok P T):∀(gs:pz Field)(pl:pz (Nat×Nat)),il T (gs.map λf=>(f.type,f.offset))=some pl ->
  ∀w:World,(gs.mapM λf:Field=>do pure (f.offset,←sizeOf f.type)).run P w=.ok pl w
 | [],pl,h,w=>by simp only [List.map_nil,il,Qw1] at h;subst h;simp
 | f::r,pl,h,w=>by
  simp only [Qn3,il] at h;split at h
  ·rename_i i l hi hl;simp only [Qw1] at h;subst h;obtain ⟨info,d,z,h1,h2,h3,h4,h5,-⟩:=aI (hT _ _ hi);have:=oQ hT r l hl w;simp only [bind_pure_comp] at this;simp [List.mapM_cons,aR h1,this,h5]
  ·cases h
def fS {i:TI}{z:un}(h:i.zero=z.cells.toList.map C.ofConst):(i.zero.map (C.den β)).toArray=z.cells/\i.zero.flatMap C.ids=[]:=by rw [h];exact ⟨by rw [IA],FT _⟩
def F5 {ps:pz (Nat×SV)}(h:∀p∈ps.flatMap (λx=>x.2.gV),p):∀x∈ps,∀v:C,v∈x.2.cells->∀p∈gV v,p:=
 λx a v b p c=>h p (Qy1.2 ⟨x,a,Qy1.2 ⟨v,b,c⟩⟩)
def parts_eq {parts:Array (Nat×Operand)}{ps:pz (Nat×SV)}(h:(parts.toList.map λx=>(x.1,a.eval x.2))=(ps.map λx=>(x.1,x.2.den β))) :
  (parts.map λx=>(x.1,a.eval x.2)).toList=ps.map λx=>(x.1,x.2.den β):=by rw [Qf1];exact h
def Fl (hT:eu.ok P T)(hM:Mod n V0 bQ β0 st β a w V){t:TypeId}{i:TI}(hi:ou P t=some i){fs:pz (TypeId×Nat)}(hk:i.k=.struct fs)
  {parts:Array (Nat×Operand)}{ps:pz (Nat×SV)}(hp:partsOf st.bC parts.toList=some ps){pl:pz (Nat×Nat)}(hpl:il T fs=some pl)
  {cs:pz C}(hf:rJ (λj=>pl[j]?) i.zero ps=some cs)(hsc:∀p∈ps.flatMap (λx=>x.2.gV),p) :
  (Instr.build t (parts.map λx=>(x.1,a.eval x.2))).run P w=.ok (SV.den β (.agg cs)) w/\Live st (.agg cs):=by have ⟨info,d,z,b,c,e,g,A,B,l⟩:=aI hi;have ⟨m,o⟩:=mq hM _ _ hp;rw [g] at hk;obtain ⟨gs,rfl,rfl⟩:=kV hk;have ⟨q,r⟩:=fS (β:=β) l;have ⟨f1,f2⟩:=qL (β:=β) _ _ _ hf (F5 hsc);have hm:=oQ hT gs.toList pl hpl w;refine ⟨?_,?_⟩;{have u:(gs.mapM λf:Field=>do pure (f.offset,←sizeOf f.type)).run P w=.ok pl.toArray w:=by{grind [Array.mapM_eq_mapM_toList,Sem.run_map,Result.andThen_ok]};simp only [Instr.build,Sem.run_bind,kE b e,Result.andThen_ok,ai c,u];rw [parts_eq m,←q];have:(λj:Nat=>pl.toArray[j]?)=λj:Nat=>pl[j]?:=by{funext j;simp};rw [this,f1];rfl};{intro s v;rcases f2 s v with h|⟨x,y,h⟩;{rw [r] at h;cases h};{exact o x y s h}}
def Hs (hT:eu.ok P T)(hM:Mod n V0 bQ β0 st β a w V){t:TypeId}{i:TI}(hi:ou P t=some i){m:Nat}{e:TypeId}(hk:i.k=.arr m e)
  {parts:Array (Nat×Operand)}{ps:pz (Nat×SV)}(hp:partsOf st.bC parts.toList=some ps){ei:TI}(he:aC T e=some ei)
  {cs:pz C}(hf:rJ (λj=>some (j*ei.size,ei.size)) i.zero ps=some cs)(hsc:∀p∈ps.flatMap (λx=>x.2.gV),p) :
  (Instr.build t (parts.map λx=>(x.1,a.eval x.2))).run P w=.ok (SV.den β (.agg cs)) w/\Live st (.agg cs):=by have ⟨info,d,z,b,c,f,g,D,E,l⟩:=aI hi;have ⟨F,G,H,o,I,J,K,q,L,M⟩:=aI (hT _ _ he);have ⟨r,u⟩:=mq hM _ _ hp;rw [g] at hk;obtain rfl:=pL hk;have ⟨v,y⟩:=fS (β:=β) l;have ⟨f1,f2⟩:=qL (β:=β) _ _ _ hf (F5 hsc);refine ⟨?_,?_⟩;{simp only [Instr.build,Sem.run_bind,kE b f,Result.andThen_ok,ai c,aR o];rw [parts_eq r,←v,←q,f1];rfl};{intro s A;rcases f2 s A with h|⟨x,B,h⟩;{rw [y] at h;cases h};{exact u x B s h}}
def OS {α:Type}[Inhabited α](zs:pz α)(m:Nat):((List.range (m*zs.length)).map λj=>zs.toArray[j%zs.length]!)=(List.replicate m zs).flatten:=by
 induction m with
 | zero=>simp
 | succ m ih=>
  rw [List.replicate_succ',List.flatten_append,←ih,Qg8,List.range_add,Qh6];congr 1;simp only [List.flatten_cons,List.flatten_nil,Qx2,List.map_map];apply Qg2;grind [List.getElem?_range,Nat.add_mul_mod_self_right,Nat.mod_eq_of_lt]
def U8 (m:Nat)(zs:pz C):(rep m zs).map (C.den β)=(List.replicate m (zs.map (C.den β))).flatten:=by unfold rep;rw [List.map_flatten,List.map_replicate]
def U7 {m:Nat}{zs:pz C}(h:zs.flatMap C.ids=[]):(rep m zs).flatMap C.ids=[]:=by
 unfold rep
 induction m<;>grind
theorem vF (m:Nat)(zs:pz un):vE m zs=(List.replicate m zs).flatten:=by
 unfold vE;split
 ·rename_i z
  induction m<;>grind
 ·rfl
theorem vP {z:un}{m:Nat}(k:Nat)(hk:k=m*z.cells.size) :
  ((Array.range k).map λj=>z.cells[j%z.cells.size]!)=((List.replicate m z.cells.toList).flatten).toArray:=by apply Qd7;rw [Qf1,Array.toList_range];subst hk;have:=OS z.cells.toList m;simpa using this
def zR {z:un}{m:Nat}(h0:m*z.cells.size=0):(List.replicate m z.cells.toList).flatten=[]:=by rcases Wq6.1 h0 with h|h;{subst h;rfl};{have:z.cells.toList=[]:=by{grind};rw [this];simp}
def Sr:Array.range 0=#[]:=rfl
def zT (hT:eu.ok P T)(hM:Mod n V0 bQ β0 st β a w V){t:TypeId}{i:TI}(hi:ou P t=some i){e:TypeId}(hk:i.k=.slice e){len:Nat}
  {parts:Array (Nat×Operand)}{ps:pz (Nat×SV)}(hp:partsOf st.bC parts.toList=some ps){ei:TI}(he:aC T e=some ei)
  (hlen:len*ei.size<=16777216)(hzl:ei.zero.length=ei.size)(hz0:ei.size≠0)
  {cs:pz C}(hf:rJ (λj=>some (j*ei.size,ei.size)) (rep len ei.zero) ps=some cs)(hsc:∀p∈ps.flatMap (λx=>x.2.gV),p) :
  (Instr.buildSlice t len (parts.map λx=>(x.1,a.eval x.2))).run P w=.ok (.slice (some ⟨w.heap.size,0,none⟩) len len) (w.alloc (aW.obj β ⟨.lit cs,e⟩)) /\
  ∀s∈cs.flatMap C.ids,∃b,st.boxes s=some b:=by obtain ⟨info,d,z,L,A,M,B,N,O,Q⟩:=aI hi;have ⟨g,R,l,u,S,D,U,o,W,E⟩:=aI (hT _ _ he);have ⟨v,F⟩:=mq hM _ _ hp;rw [B] at hk;obtain rfl:=bh hk;have ⟨y,G⟩:=fS (β:=β) E;have ⟨f1,f2⟩:=qL (β:=β) _ _ _ hf (F5 hsc);have f:l.cells.size=g.size:=by{rw [←y];simp [hzl,o]};refine ⟨?_,?_⟩;{have c:((List.replicate len l.cells.toList).flatten).toArray=((rep len ei.zero).map (C.den β)).toArray:=by{rw [U8,←y]};have H:¬len*g.size>2^24:=by{rw [←o];simpa using hlen};simp only [Instr.buildSlice,Sem.run_bind,ai A,Result.andThen_ok,aR u,Sem.run_ite,if_neg H];by_cases q:len*g.size=0;{have I:=zR (z:=l) (m:=len) (by rw [f];exact q);rw [I] at c;simp only [q,if_true,Sem.run_pure,Result.andThen_ok,Sr,Array.map_empty,←c] at f1 ⊢;rw [parts_eq v,←o];have r:Instr.fill (λj=>some (j*ei.size,ei.size)) #[] (ps.map λx=>(x.1,x.2.den β))=some (cs.map (C.den β)).toArray:=f1;rw [r];simp only [Sem.run_bind,newRow,run_newObj,Result.andThen_ok,Sem.run_pure];rfl};{simp only [q,if_false,kE u D,Sem.run_pure,Result.andThen_ok];rw [vP (z:=l) (m:=len) (len*g.size) (by rw [f]),c,parts_eq v,←o,f1];simp only [Sem.run_bind,newRow,run_newObj,Result.andThen_ok,Sem.run_pure];rfl}};{intro s J;rcases f2 s J with h|⟨x,K,h⟩;{rw [U7 G] at h;cases h};{exact F x K s h}}
def E8 {x:Int}(h0:0<=x)(h1:x<9223372036854775808:=by omega):i64.wrap x=x:=by unfold IntKind.wrap IntKind.bits IntKind.signed;simp;omega
def Dd (hT:eu.ok P T){t:TypeId}{i:TI}(hi:ou P t=some i){e:TypeId}(hk:i.k=.slice e){ei:TI}(he:aC T e=some ei)
  {k1 k2:IntKind}{l c:Int}(hb:ei.bytes≠0)(hs:ei.size≠0){zs:pz un}(hz:mu ei.zero=some zs)(hzl:ei.size=zs.length)
  (c1:0<=l)(c2:l<=c)(c3:(ei.bytes:Int)*c<=140737488355328) :
  (Instr.makeSlice t (.int k1 l) (.int k2 c)).run P w=.ok (.slice (some ⟨w.heap.size,0,none⟩) l.toNat c.toNat) (w.alloc (aW.obj β ⟨.row (vE c.toNat zs),e⟩)):=by obtain ⟨info,d,z,B,p,C,q,D,E,F⟩:=aI hi;have ⟨f,G,g,h,H,r,I,s,u,v⟩:=aI (hT _ _ he);rw [q] at hk;obtain rfl:=bh hk;have ⟨n,J⟩:=fS (β:=β) v;obtain ⟨d1,-⟩:=gj (β:=β) hz;have b:g.cells.size=f.size:=by{rw [←n,d1];simp [←hzl,s]};have o:c<=140737488355328:=by{have:1<=(ei.bytes:Int):=by{omega};have:=Int.mul_le_mul_of_nonneg_right this (by omega:0<=c);omega};have x:i64.wrap l=l:=E8 c1;have y:i64.wrap c=c:=E8 (by omega);rw [u] at c3;have t1:(decide (c<0)||decide ((f.bytes:Int)*c>2^48))=false:=by{grind};have t2:decide (l<0)=false:=by{simp;omega};have t3:decide (l>c)=false:=by{simp;omega};have a:(List.replicate c.toNat g.cells.toList).flatten=vE c.toNat zs:=by{rw [vF,←d1,←n]};simp only [Instr.makeSlice,Sem.run_bind,ai p,Result.andThen_ok,mF h,asInt,asIntOf,Sem.run_pure,x,y,t1,t2,t3,Bool.or_self,Qj0,if_false,run_askRoom,aR h,Sem.run_ite];by_cases j:c.toNat*f.size=0;{have A:=zR (z:=g) (m:=c.toNat) (by rw [b];exact j);rw [A] at a;simp only [j,if_true,Sem.run_bind,Sem.run_pure,Result.andThen_ok,Sr,Array.map_empty,newRow,run_newObj,←a];rfl};{simp only [j,if_false,kE h r,Result.andThen_ok];rw [vP (z:=g) (m:=c.toNat) (c.toNat*f.size) (by rw [b]),a];simp only [Sem.run_bind,newRow,run_newObj,Result.andThen_ok,Sem.run_pure];rfl}
end Go.Eng
namespace Go.Eng
variable {P:Program} {T:eu} {n:Nat} {V0:View} {bQ:J8} {β0:Nat->Nat} {st:St} {β:Nat->Nat} {a:Act} {w:World} {V:View}
def H4 {gs:Array Field}{f ft off:Nat}(h:(gs.toList.map λf=>(f.type,f.offset))[f]?=some (ft,off)):∃T8,gs[f]?=some T8/\T8.type=ft/\T8.offset=off:=by rw [Qs6] at h;(cases hg:gs.toList[f]? with|none=>{rw [hg] at h;cases h}|some T8=>grind)
def xl (hT:eu.ok P T){t:TypeId}{i:TI}(hi:ou P t=some i){fs:pz (TypeId×Nat)}(hk:i.k=.struct fs){f ft off:Nat}(hf:fs[f]?=some (ft,off))
  {fi:TI}(hfi:aC T ft=some fi)(hs:fi.size≠0)(ad:Addr):(Instr.fieldAt t (.pointer (some ad)) f).run P w=.ok (.pointer (some (ad.add off))) w:=by have ⟨info,d,z,h,b,j,c,l,m,n⟩:=aI hi;obtain ⟨a,fd,o,e,p,q,r,s,u,v⟩:=aI (hT _ _ hfi);rw [c] at hk;obtain ⟨gs,rfl,rfl⟩:=kV hk;obtain ⟨x,g,rfl,rfl⟩:=H4 hf;simp only [Instr.fieldAt,Sem.run_bind,ai b,Result.andThen_ok,g,Instr.sureAddr,Sem.run_pure,fieldPlace,aR e];rw [Sem.run_ite,if_neg (by omega)];rfl
def IV {t:TypeId}{i:TI}(hi:ou P t=some i)(cs:pz C)(off:Nat) :
  (vN i.k=true->(part t (cs.map (C.den β)).toArray off).run P w=.ok (SV.den β (.agg ((cs.drop off).take i.size))) w) /\
  (∀c,vN i.k=false->cs[off]?=some c->(part t (cs.map (C.den β)).toArray off).run P w=.ok (c.den β) w):=by have ⟨info,d,z,f,b,h,e,j,l,m⟩:=aI hi;refine ⟨λa=>?_,λc a g=>?_⟩;{rw [e] at a;simp only [part,Sem.run_bind,jh b,Result.andThen_ok,a,if_true,aR f,Sem.run_pure,SV.den];grind [List.map_take,List.map_drop]};{rw [e] at a;simp [part,jh b,a,g]}
def N8 (hT:eu.ok P T){t:TypeId}{i:TI}(hi:ou P t=some i){fs:pz (TypeId×Nat)}(hk:i.k=.struct fs){f ft off:Nat}(hf:fs[f]?=some (ft,off))
  {fi:TI}(hfi:aC T ft=some fi){cs:pz C} :
  (vN fi.k=true->(Instr.field t (SV.den β (.agg cs)) f).run P w=.ok (SV.den β (.agg ((cs.drop off).take fi.size))) w) /\
  (∀c,vN fi.k=false->cs[off]?=some c->(Instr.field t (SV.den β (.agg cs)) f).run P w=.ok (c.den β) w):=by have ⟨info,d,z,n,g,o,j,p,q,s⟩:=aI hi;rw [j] at hk;obtain ⟨gs,rfl,rfl⟩:=kV hk;obtain ⟨b,l,rfl,rfl⟩:=H4 hf;have e:=IV (w:=w) (β:=β) (hT _ _ hfi) cs b.offset;have a:∀r,(part b.type (cs.map (C.den β)).toArray b.offset).run P w=r->(Instr.field t (SV.den β (.agg cs)) f).run P w=r:=by{intro r a;simp only [Instr.field,Sem.run_bind,ai g,Result.andThen_ok,l,asAgg,SV.den,Sem.run_pure,a]};exact ⟨λh=>a _ (e.1 h),λc h m=>a _ (e.2 c h m)⟩
def fH (k:IntKind)(x:Int):(asIntOf (.int k x)).run P w=.ok (k,x) w:=rfl
def Bs (hT:eu.ok P T){t:TypeId}{i:TI}(hi:ou P t=some i){x ix:SV}{sc:pz Prop}{v:SV}(h:jd T i x ix=.ret sc v)(hsc:∀p∈sc,p) :
  (Instr.indexAt t (x.den β) (ix.den β)).run P w=.ok (v.den β) w/\∀s∈v.ids,s∈x.ids:=by have ⟨info,d,z,J,j,K,r,L,M,N⟩:=aI hi;unfold jd at h;split at h;{rename_i k m;split at h;{rename_i e l;rw [r] at l;obtain rfl:=bh l;split at h;{rename_i u he;have ⟨y,A,B,f,D,E,F,g,G,H⟩:=aI (hT _ _ he);split at h;{rename_i n len c;simp only [Q.ret.injEq] at h;obtain ⟨rfl,rfl⟩:=h;have q:=hsc (n.isSome=true) (by simp);have a:=hsc (0<=m/\m<(len:Int)) (by simp);obtain ⟨p,rfl⟩:=Qc6.1 q;refine ⟨?_,λs b=>b⟩;simp [Instr.indexAt,SV.den,C.den,fH,ai j,a,aR f,ae,g]};{rename_i s o len c;simp only [Q.ret.injEq] at h;obtain ⟨rfl,rfl⟩:=h;have a:=hsc (0<=m/\m<(len:Int)) (by simp);refine ⟨?_,λs b=>by simpa [SV.ids,C.ids] using b⟩;simp [Instr.indexAt,SV.den,C.den,fH,ai j,a,aR f,gJ,g]};{rename_i s len c;simp only [Q.ret.injEq] at h;obtain ⟨rfl,rfl⟩:=h;have a:=hsc (0<=m/\m<(len:Int)) (by simp);have O:=hsc (len<=c) (by simp);refine ⟨?_,λs b=>by simpa [SV.ids,C.ids] using b⟩;have I:mA (β s) c=some ⟨β s,0,none⟩:=by{unfold mA;rw [if_neg (by omega)]};simp [Instr.indexAt,SV.den,C.den,fH,ai j,a,aR f,gJ,g,I]};{cases h}};{cases h}};{rename_i len e l;rw [r] at l;obtain rfl:=pL l;split at h;{rename_i u he;have ⟨y,A,B,f,D,E,F,g,G,H⟩:=aI (hT _ _ he);split at h;{rename_i s o;simp only [Q.ret.injEq] at h;obtain ⟨rfl,rfl⟩:=h;have a:=hsc (0<=m/\m<(len:Int)) (by simp);refine ⟨?_,λs b=>by simpa [SV.ids,C.ids] using b⟩;simp [Instr.indexAt,Instr.sureAddr,SV.den,C.den,fH,ai j,a,aR f,gJ,g]};{rename_i n;simp only [Q.ret.injEq] at h;obtain ⟨rfl,rfl⟩:=h;have q:=hsc (n.isSome=true) (by simp);have a:=hsc (0<=m/\m<(len:Int)) (by simp);obtain ⟨p,rfl⟩:=Qc6.1 q;refine ⟨?_,λs b=>b⟩;simp [Instr.indexAt,Instr.sureAddr,SV.den,C.den,fH,ai j,a,aR f,ae,g]};{cases h}};{cases h}};{cases h}};{cases h}
def NA {k:IntKind}{x:Int}{y:Nat}(code:BoundsCode)(h:0<=x/\x<=(y:Int)):(Instr.sliceBound (.int k x) y code).run P w=.ok x.toNat w:=by simp [Instr.sliceBound,fH,h]
def jH {len c:Nat}{lo hi mx:Option SV}{sc:pz Prop}{l:Option Nat}{h m:Nat}(hq:qT len c lo hi mx=some (sc,l,h,m))(hsc:∀p∈sc,p) :
  (Instr.sliceBounds true len c (lo.map (SV.den β)) (hi.map (SV.den β)) (mx.map (SV.den β))).run P w=.ok (l.getD 0,h,m) w:=by
 unfold qT at hq
 cases ht:U2 c mx with
 | none=>rw [ht] at hq;cases hq
 | some t=>
  obtain ⟨g,a⟩:=t;rw [ht] at hq;dsimp only at hq
  cases hh:Sk len a hi mx with
  | none=>rw [hh] at hq;cases hq
  | some t=>
   obtain ⟨i,b⟩:=t;rw [hh] at hq;dsimp only at hq
   cases hl:YQ b lo with
   | none=>rw [hl] at hq;cases hq
   | some t=>
    obtain ⟨j,f⟩:=t;rw [hl] at hq;simp only [Qw1,Qm4] at hq;obtain ⟨rfl,rfl,rfl,rfl⟩:=hq
    have hm:((mx=none/\a=c)\/∃k x,mx=some (.c (.v (.int k x)))/\a=x.toNat/\(0<=x/\x<=(c:Int))):=by unfold U2 at ht;split at ht;{simp only [Qw1,Qm4] at ht;exact .inl ⟨rfl,ht.2.symm⟩};{rename_i k x;simp only [Qw1,Qm4] at ht;obtain ⟨rfl,rfl⟩:=ht;exact .inr ⟨k,x,rfl,rfl,hsc _ (by simp)⟩};{cases ht}
    have d:((hi=none/\mx=none/\b=len)\/∃k x,hi=some (.c (.v (.int k x)))/\b=x.toNat/\(0<=x/\x<=(a:Int))):=by unfold Sk at hh;split at hh;{rename_i k x;simp only [Qw1,Qm4] at hh;obtain ⟨rfl,rfl⟩:=hh;exact .inr ⟨k,x,rfl,rfl,hsc _ (by simp)⟩};{simp only [Qw1,Qm4] at hh;exact .inl ⟨rfl,rfl,hh.2.symm⟩};{cases hh}
    have e:((lo=none/\f=none)\/∃k x,lo=some (.c (.v (.int k x)))/\f=some x.toNat/\(0<=x/\x<=(b:Int))):=by unfold YQ at hl;split at hl;{simp only [Qw1,Qm4] at hl;exact .inl ⟨rfl,hl.2.symm⟩};{rename_i k x;simp only [Qw1,Qm4] at hl;obtain ⟨rfl,rfl⟩:=hl;exact .inr ⟨k,x,rfl,rfl,hsc _ (by simp)⟩};{cases hl}
    clear ht hh hl hsc
    rcases hm with ⟨rfl,rfl⟩|⟨n,o,rfl,rfl,q⟩<;>rcases d with ⟨rfl,hx,rfl⟩|⟨k2,x2,rfl,rfl,b2⟩<;>rcases e with ⟨rfl,rfl⟩|⟨k3,x3,rfl,rfl,b3⟩ <;>
     (try cases hx) <;>
     simp only [Instr.sliceBounds,Option.map_none,Wq5,SV.den,C.den,Sem.run_bind,Sem.run_pure,Result.andThen_ok,Qt2,Qf2,Option.isSome_none,Option.isSome_some,if_true,Qj0,if_false] <;>
     (repeat (rw [NA _ (by assumption)];simp only [Result.andThen_ok]))
def K5 (hT:eu.ok P T){t:TypeId}{i:TI}(hi:ou P t=some i){e:TypeId}(hk:i.k=.slice e){ei:TI}(he:aC T e=some ei){x:SV}{lo hi' mx:Option SV}{sc:pz Prop}{v:SV}
  (h:wL ei.size x lo hi' mx=.ret sc v)(hsc:∀p∈sc,p) :
  (Instr.sliceAt t (x.den β) (lo.map (SV.den β)) (hi'.map (SV.den β)) (mx.map (SV.den β))).run P w=.ok (v.den β) w/\∀s∈v.ids,s∈x.ids:=by have ⟨info,d,z,y,j,A,u,B,D,E⟩:=aI hi;have ⟨F,G,H,n,I,J,K,r,L,M⟩:=aI (hT _ _ he);rw [u] at hk;obtain rfl:=bh hk;have a:∀p:OA,p.map (λx=>x.add 0)=p:=by{intro p;cases p<;>simp [Addr.add]};unfold wL at h;split at h;{rename_i N len c;split at h;{rename_i f q m b;simp only [Q.ret.injEq] at h;obtain ⟨rfl,rfl⟩:=h;have:=jH (P:=P) (w:=w) (β:=β) b hsc;refine ⟨?_,λs g=>g⟩;simp only [Instr.sliceAt,Instr.slice,SV.den,C.den,Sem.run_bind,ai j,Result.andThen_ok,this,aR n,Sem.run_pure,Qt2,Qc4,Wz1,a,ite_self]};{rename_i f l q m b;simp only [Q.ret.injEq] at h;obtain ⟨rfl,rfl⟩:=h;have:=jH (P:=P) (w:=w) (β:=β) b hsc;refine ⟨?_,λs g=>g⟩;simp only [Instr.sliceAt,Instr.slice,SV.den,C.den,Sem.run_bind,ai j,Result.andThen_ok,this,aR n,Sem.run_pure,Qf2,r];rfl};{cases h}};{rename_i s o len c;split at h;{rename_i f q m b;simp only [Q.ret.injEq] at h;obtain ⟨rfl,rfl⟩:=h;have:=jH (P:=P) (w:=w) (β:=β) b hsc;refine ⟨?_,λs g=>by simpa [SV.ids,C.ids] using g⟩;simp only [Instr.sliceAt,Instr.slice,SV.den,C.den,Sem.run_bind,ai j,Result.andThen_ok,this,aR n,Sem.run_pure,Qt2,Qc4,Wz1,a,ite_self]};{rename_i f l q m b;simp only [Q.ret.injEq] at h;obtain ⟨rfl,rfl⟩:=h;have:=jH (P:=P) (w:=w) (β:=β) b hsc;refine ⟨?_,λs g=>by simpa [SV.ids,C.ids] using g⟩;simp only [Instr.sliceAt,Instr.slice,SV.den,C.den,Sem.run_bind,ai j,Result.andThen_ok,this,aR n,Sem.run_pure,Qf2,r];congr 2;unfold Jj;split<;>simp [gJ]};{cases h}};{rename_i s len c;split at h;{split at h;{rename_i f q m b;simp only [Q.ret.injEq] at h;obtain ⟨rfl,rfl⟩:=h;have hm:m=c:=by{unfold qT at b;simp only [U2] at b;grind};have:=jH (P:=P) (w:=w) (β:=β) b hsc;refine ⟨?_,λs g=>by simpa [SV.ids,C.ids] using g⟩;simp only [Instr.sliceAt,Instr.slice,SV.den,C.den,Sem.run_bind,ai j,Result.andThen_ok,this,aR n,Sem.run_pure,Qt2,Qc4,Wz1,a,ite_self,hm]};{cases h}};{cases h}};{cases h}
end Go.Eng
namespace Go.Eng
variable {P:Program} {T:eu} {n:Nat} {V0:View} {bQ:J8} {β0:Nat->Nat} {st:St} {β:Nat->Nat} {a:Act} {w:World} {V:View}
theorem fB {s:Sem un}{v:un}{w':World}(h:s.run P w=.ok v w'):(do pure (Next.value (←s)):Sem Next).run P w=.ok (.value v) w':=by simp [h]
def run_u {s:Sem Unit}{w':World}(h:s.run P w=.ok () w'):(do s;pure Next.skip:Sem Next).run P w=.ok .skip w':=by simp [h]
def wA {f:Int->Int->Int}{k:IntKind}{g:un->un->Sem un}(hg:∀x y k',(g (.int k x) (.int k' y))=pure (.int k (f x y))):∀(r:pz SV)(x m:Int),foldI f k x r=some m ->
  ((r.map (SV.den β)).foldlM g (.int k x)).run P w=.ok (.int k m) w
 | [],x,m,h=>by simp only [foldI,Qw1] at h;subst h;rfl
 | y::r,x,m,h=>by
  unfold foldI at h;split at h
  ·rename_i e;cases e
  ·rename_i k' b r' e;simp only [Qk4] at e;obtain ⟨rfl,rfl⟩:=e;split at h
   ·simp only [Qn3,List.foldlM_cons,SV.den,C.den,hg,pure_bind];exact wA hg r _ m h
   ·cases h
  ·cases h
def Nc:∀{cs:pz C} {l:pz (OA×Nat×Nat)} {k:Nat},Nb cs=some l->k<l.length->cs[k]?=some (.v (.slice (l.getD k (none,0,0)).1 (l.getD k (none,0,0)).2.1 (l.getD k (none,0,0)).2.2))
 | [],l,k,h,hk=>by cases h;cases hk
 | c::r,l,k,h,hk=>by
  unfold Nb at h;split at h
  ·cases ‹_=[]›
  ·rename_i p n d r' e;cases e;split at h
   ·rename_i l' hl';cases h
    cases k with
    | zero=>rfl
    | succ k=>simpa using Nc hl' (by simpa using hk)
   ·cases h
  ·cases h
def xj {d:TypeDesc}(h:mI d=.str):d=.string:=by cases d<;>simp_all [mI]
def Gf {b:Builtin}{xs:pz SV}{t:TypeId}{ts:pz TypeId}{ty:TypeId}{cs:Array md}{i:TI}(hi:ou P t=some i){sc:pz Prop}{v:SV}(h:nw b i.k xs=.ret sc v) :
  (builtin b (t::ts).toArray ty cs (xs.map (SV.den β)).toArray).run P w=.ok (.value (v.den β)) w/\v.ids=[]:=by have ⟨info,d,z,u,l,A,n,B,D,E⟩:=aI hi;unfold nw at h;split at h;{cases h};{rename_i x r;split at h;{split at h;{rename_i e p m c j;rw [n] at j;obtain rfl:=bh j;simp only [Q.ret.injEq] at h;obtain ⟨rfl,rfl⟩:=h;refine ⟨?_,rfl⟩;simp [builtin,Builtin.len_,ai l,SV.den,C.den,goInt]};{rename_i e s o m c j;rw [n] at j;obtain rfl:=bh j;simp only [Q.ret.injEq] at h;obtain ⟨rfl,rfl⟩:=h;refine ⟨?_,rfl⟩;simp [builtin,Builtin.len_,ai l,SV.den,C.den,goInt]};{rename_i e s m c j;rw [n] at j;obtain rfl:=bh j;simp only [Q.ret.injEq] at h;obtain ⟨rfl,rfl⟩:=h;refine ⟨?_,rfl⟩;simp [builtin,Builtin.len_,ai l,SV.den,C.den,goInt]};{rename_i s j;rw [n] at j;obtain rfl:=xj j;simp only [Q.ret.injEq] at h;obtain ⟨rfl,rfl⟩:=h;refine ⟨?_,rfl⟩;simp [builtin,Builtin.len_,ai l,SV.den,C.den,goInt]};{cases h}};{split at h;{rename_i e p m c j;rw [n] at j;obtain rfl:=bh j;simp only [Q.ret.injEq] at h;obtain ⟨rfl,rfl⟩:=h;refine ⟨?_,rfl⟩;simp [builtin,Builtin.cap_,ai l,SV.den,C.den,goInt]};{rename_i e s o m c j;rw [n] at j;obtain rfl:=bh j;simp only [Q.ret.injEq] at h;obtain ⟨rfl,rfl⟩:=h;refine ⟨?_,rfl⟩;simp [builtin,Builtin.cap_,ai l,SV.den,C.den,goInt]};{rename_i e s m c j;rw [n] at j;obtain rfl:=bh j;simp only [Q.ret.injEq] at h;obtain ⟨rfl,rfl⟩:=h;refine ⟨?_,rfl⟩;simp [builtin,Builtin.cap_,ai l,SV.den,C.den,goInt]};{cases h}};{split at h;{rename_i k a;split at h;{rename_i m hm;simp only [Q.ret.injEq] at h;obtain ⟨rfl,rfl⟩:=h;refine ⟨?_,rfl⟩;have:=wA (P:=P) (w:=w) (β:=β) (f:=cK) (k:=k) (g:=Builtin.min2) (λx y q=>by simp [Builtin.min2,cK]) r a m hm;simp [builtin,Builtin.min_,SV.den,C.den] at this ⊢;rw [this];rfl};{cases h}};{cases h}};{split at h;{rename_i k a;split at h;{rename_i m hm;simp only [Q.ret.injEq] at h;obtain ⟨rfl,rfl⟩:=h;refine ⟨?_,rfl⟩;have:=wA (P:=P) (w:=w) (β:=β) (f:=ch) (k:=k) (g:=Builtin.max2) (λx y q=>by simp [Builtin.max2,ch]) r a m hm;simp [builtin,Builtin.max_,SV.den,C.den] at this ⊢;rw [this];rfl};{cases h}};{cases h}};{cases h}}
def Qo {x:md×pz C}{y:SV}(h:wg x=some y):j8 β x=y.den β/\∀s∈y.ids,s∈x.2.flatMap C.ids:=by
 obtain ⟨b,cs⟩:=x
 cases b with
 | true=>simp only [wg,Qw1] at h;subst h;exact ⟨rfl,λs a=>a⟩
 | false=>
  match cs,h with
  | [],h=>simp [wg] at h
  | [c],h=>simp only [wg,Qw1] at h;subst h;exact ⟨rfl,λs a=>by simpa [SV.ids] using a⟩
  | _::_::_,h=>simp [wg] at h
def xH:∀(xs:pz SV)(ss:pz Nat),Bp xs=some ss->xs.map (SV.den β)=(ss.map λs=>Value.pointer (some ⟨β s,0,none⟩))/\∀s∈ss,∃x∈xs,s∈x.ids
 | [],ss,h=>by simp only [Bp,Qw1] at h;subst h;exact ⟨rfl,λs hs=>by cases hs⟩
 | x::r,ss,h=>by
  unfold Bp at h;split at h
  ·rename_i e;cases e
  ·rename_i s r' e;simp only [Qk4] at e;obtain ⟨rfl,rfl⟩:=e;split at h
   ·rename_i l b;simp only [Qw1] at h;subst h;have ⟨d,g⟩:=xH r l b;refine ⟨by simp [d,SV.den,C.den],λf a=>?_⟩;rcases Qq5.1 a with rfl|a
    ·exact ⟨.c (.ptr f 0),by simp,by simp [SV.ids,C.ids]⟩
    grind
   ·cases h
  ·cases h
def Bh (hM:Mod n V0 bQ β0 st β a w V){x:Option Operand}{v:Option SV}(h:F7 st.bC x=some v):x.map a.eval=v.map (SV.den β):=by (cases x with|none=>{simp only [F7,Qw1] at h;subst h;rfl}|some o=>{simp only [F7] at h;grind [hM.eval]})
def qO {x y:SV}(hx:Live st x)(h:∀s∈y.ids,s∈x.ids):Live st y:=λs a=>hx s (h s a)
theorem oF {bx:Nat->Option aW}{t:TypeId}{x:SV}:oE T bx t x=.fail\/∃sc s b,oE T bx t x=.yw sc s b:=by
 unfold oE;split<;>(try split)<;>(try split)<;>(try split)<;>(try split)<;>(try split)<;>first|exact .inl rfl|exact .inr ⟨_,_,_,rfl⟩
def K3 {bx:Nat->Option aW}{t:TypeId}{x:SV}{sc:pz Prop}{v:SV}(h:oE T bx t x=.ret sc v):False:=by grind [oF]
def I0 {bx:Nat->Option aW}{e:TypeId}{ei:TI}{b x:SV}{sc:pz Prop}{v:SV}(h:df bx e ei b x=.ret sc v):False:=by unfold df at h;grind
def OO (hT:eu.ok P T)(hM:Mod n V0 bQ β0 st β a w V){o:Oper}{sc:pz Prop}{v:SV}(h:aS T st.bC st.boxes o.op=.ret sc v)(hsc:∀p∈sc,p) :
  (execOp a.eval o).run P w=.ok (.value (v.den β)) w/\Live st v:=by unfold aS at h;split at h;(case h_1 op x hop=>split at h;{rename_i y hy;simp only [Q.ret.injEq] at h;obtain ⟨rfl,rfl⟩:=h;refine ⟨?_,hM.live hy⟩;simp only [execOp,hop,hM.eval hy];rfl};{cases h});(case h_2 op x hop=>split at h;{rename_i y hy;simp only [Q.ret.injEq] at h;obtain ⟨rfl,rfl⟩:=h;refine ⟨?_,hM.live hy⟩;simp only [execOp,hop,hM.eval hy];rfl};{cases h});(case h_3 op c x y hop=>split at h;{rename_i hc;split at h;{rename_i z hz;simp only [Q.ret.injEq] at h;obtain ⟨rfl,rfl⟩:=h;refine ⟨?_,hM.live hz⟩;simp [execOp,hop,hM.eval hz,hM.eval hc,SV.den,C.den,asBool]};{cases h}};{rename_i hc;split at h;{rename_i z hz;simp only [Q.ret.injEq] at h;obtain ⟨rfl,rfl⟩:=h;refine ⟨?_,hM.live hz⟩;simp [execOp,hop,hM.eval hz,hM.eval hc,SV.den,C.den,asBool]};{cases h}};{cases h});(case h_4=>split at h<;>cases h);(case h_5=>split at h;{split at h<;>cases h};{cases h});(case h_6 op t parts hop=>split at h;{rename_i i ps hi hps;have hi:=hT _ _ hi;split at h;{rename_i fs hk;split at h;{rename_i pl hpl;split at h;{rename_i cs hcs;simp only [Q.ret.injEq] at h;obtain ⟨rfl,rfl⟩:=h;have ⟨h1,h2⟩:=Fl hT hM hi hk hps hpl hcs hsc;refine ⟨?_,h2⟩;simp only [execOp,hop];exact fB h1};{cases h}};{cases h}};{rename_i m e hk;split at h;{rename_i ei Ia;split at h;{rename_i cs hcs;simp only [Q.ret.injEq] at h;obtain ⟨rfl,rfl⟩:=h;have ⟨h1,h2⟩:=Hs hT hM hi hk hps Ia hcs hsc;refine ⟨?_,h2⟩;simp only [execOp,hop];exact fB h1};{cases h}};{cases h}};{cases h}};{cases h});(case h_7=>split at h;{split at h;{split at h;{split at h;{split at h<;>cases h};{cases h}};{cases h}};{cases h}};{cases h});(case h_8 op t x hop=>split at h;{rename_i i y hi hy;have ⟨h1,h2⟩:=ER hM (hT _ _ hi) h;refine ⟨?_,h2⟩;simp only [execOp,hop,hM.eval hy];exact fB h1};{cases h});(case h_9=>split at h;{unfold je at h;split at h;{split at h;{split at h;{split at h<;>cases h};{split at h<;>cases h};{split at h;{cases h};{split at h<;>cases h}};{cases h}};{cases h}};{cases h}};{cases h});(case h_10 op x hop=>split at h;{rename_i s o hx;simp only [Q.ret.injEq] at h;obtain ⟨rfl,rfl⟩:=h;refine ⟨?_,hM.live hx⟩;simp [execOp,hop,hM.eval hx,SV.den,C.den]};{rename_i p hx;simp only [Q.ret.injEq] at h;obtain ⟨rfl,rfl⟩:=h;obtain ⟨ad,rfl⟩:=Qc6.1 (hsc (p.isSome=true) (by simp));refine ⟨?_,hM.live hx⟩;simp [execOp,hop,hM.eval hx,SV.den,C.den]};{cases h});(case h_11 op bop xt x y yt hop=>split at h;{rename_i p q hp hq;have key:(q=.v .nilIface->∃c,y=.const c)->Ge T bop xt p q=.ret sc v->(execOp a.eval o).run P w=.ok (.value (v.den β)) w/\Live st v:=by{intro hc h;have ⟨h1,h2⟩:=Sj (P:=P) (w:=w) (β:=β) hT (ox:=x) (oy:=y) h hsc hc;refine ⟨?_,ct h2⟩;simp only [execOp,hop,hM.eval hp,hM.eval hq];exact fB h1};split at h;{split at h;{exact key (λ_=>⟨_,rfl⟩) h};{cases h}};{rename_i hne;exact key (λe=>absurd e hne) h}};{cases h});(case h_12 op t x hop=>split at h;{rename_i hx;simp only [Q.ret.injEq] at h;obtain ⟨rfl,rfl⟩:=h;refine ⟨?_,ct rfl⟩;simp [execOp,hop,hM.eval hx,SV.den,C.den,Op.unary]};{rename_i hx;simp only [Q.ret.injEq] at h;obtain ⟨rfl,rfl⟩:=h;refine ⟨?_,ct rfl⟩;simp [execOp,hop,hM.eval hx,SV.den,C.den,Op.unary]};{rename_i b hx;simp only [Q.ret.injEq] at h;obtain ⟨rfl,rfl⟩:=h;refine ⟨?_,ct rfl⟩;simp [execOp,hop,hM.eval hx,SV.den,C.den,Op.unary]};{cases h});(case h_13 op t x hop=>split at h;{rename_i k m hx;simp only [Q.ret.injEq] at h;obtain ⟨rfl,rfl⟩:=h;refine ⟨?_,ct rfl⟩;simp [execOp,hop,hM.eval hx,SV.den,C.den,Op.unary,Op.intBits,b_]};{cases h});(case h_14 op t x hop=>split at h;{rename_i k m hx;simp only [Q.ret.injEq] at h;obtain ⟨rfl,rfl⟩:=h;refine ⟨?_,ct rfl⟩;simp [execOp,hop,hM.eval hx,SV.den,C.den,Op.unary,Op.intArith]};{cases h});(case h_15 op src dst x hop=>split at h;{rename_i i0 i k m hi0 hi hx;obtain ⟨Ws,d0,z0,g1,g2,-⟩:=aI (hT _ _ hi0);have ⟨info,d,z,h1,h2,h3,h4,h5,h6,h7⟩:=aI (hT _ _ hi);split at h;{rename_i k' hk;rw [h4] at hk;obtain rfl:=HY hk;simp only [Q.ret.injEq] at h;obtain ⟨rfl,rfl⟩:=h;refine ⟨?_,ct rfl⟩;simp only [execOp,hop,hM.eval hx];refine fB ?_;simp only [convert,Sem.run_bind,ai g2,ai h2,Result.andThen_ok,SV.den,C.den];cases d0<;>rfl};{cases h}};{cases h});(case h_16 op f first caps hop=>split at h;{rename_i hf;split at h;{rename_i xs hxs;split at h;{rename_i ss hss;simp only [Q.ret.injEq] at h;obtain ⟨rfl,rfl⟩:=h;have ⟨h1,h2⟩:=iq hM _ _ hxs;have ⟨h3,h4⟩:=xH (β:=β) _ _ hss;refine ⟨?_,λs hs=>?_⟩;{have e1:first=#[]:=by{apply Qd7;exact hf};have e2:caps.map a.eval=(ss.map λs=>Value.pointer (some ⟨β s,0,none⟩)).toArray:=by{apply Qd7;rw [Qf1,h1,h3]};simp [execOp,hop,Instr.makeFunc,e1,e2,SV.den,C.den]};{have ⟨x,hx,hs'⟩:=h4 s hs;exact h2 x hx s hs'}};{cases h}};{cases h}};{cases h});(case h_17=>split at h;{unfold ES at h;split at h;{split at h;{split at h;{split at h;{split at h<;>cases h};{cases h}};{cases h}};{cases h}};{cases h}};{cases h});(case h_18 op t x lo hi mx hop=>split at h;{rename_i i xv l h' m hi' hx hl hh hm;have hi':=hT _ _ hi';split at h;{rename_i e hk;split at h;{rename_i ei Ia;have ⟨h1,h2⟩:=K5 (P:=P) (w:=w) (β:=β) hT hi' hk Ia h hsc;refine ⟨?_,qO (hM.live hx) h2⟩;simp only [execOp,hop,hM.eval hx,Bh hM hl,Bh hM hh,Bh hM hm];exact fB h1};{cases h}};{cases h}};{cases h});(case h_19 op t x f hop=>split at h;{rename_i i xv hi hx;have hi:=hT _ _ hi;split at h;{rename_i fs hk;split at h;{rename_i ft off hf;split at h;{rename_i fi hfi;split at h;{cases h};{rename_i hs;have hs:fi.size≠0:=λe=>hs (beq_eq.2 e);split at h;{rename_i s o';simp only [Q.ret.injEq] at h;obtain ⟨rfl,rfl⟩:=h;have:=xl (w:=w) hT hi hk hf hfi hs ⟨β s,o',none⟩;rw [gJ] at this;refine ⟨?_,qO (hM.live hx) (λs hs=>by simpa [SV.ids,C.ids] using hs)⟩;simp only [execOp,hop,hM.eval hx];exact fB this};{rename_i p;simp only [Q.ret.injEq] at h;obtain ⟨rfl,rfl⟩:=h;obtain ⟨ad,rfl⟩:=Qc6.1 (hsc (p.isSome=true) (by simp));have:=xl (w:=w) hT hi hk hf hfi hs ad;refine ⟨?_,ct rfl⟩;simp only [execOp,hop,hM.eval hx];exact fB this};{cases h}}};{cases h}};{cases h}};{cases h}};{cases h});(case h_20 op t x f hop=>split at h;{rename_i i cs hi hx;have hi:=hT _ _ hi;split at h;{rename_i fs hk;split at h;{rename_i ft off hf;split at h;{rename_i fi hfi;have ⟨g1,g2⟩:=N8 (P:=P) (w:=w) (β:=β) hT hi hk hf hfi (cs:=cs);have hagg:vN fi.k=true->Q.ret [] (.agg ((cs.drop off).take fi.size))=.ret sc v->(execOp a.eval o).run P w=.ok (.value (v.den β)) w/\Live st v:=by{intro hk' h;simp only [Q.ret.injEq] at h;obtain ⟨rfl,rfl⟩:=h;refine ⟨?_,qO (hM.live hx) λs hs=>?_⟩;{simp only [execOp,hop,hM.eval hx];exact fB (g1 hk')};{have ⟨c,hc,hs⟩:=Qy1.1 hs;exact uk (Qp3 (Qn6 hc)) hs}};split at h;{rename_i hk';exact hagg (by rw [hk'];rfl) h};{rename_i hk';exact hagg (by rw [hk'];rfl) h};{rename_i hk1 hk2;have hk':vN fi.k=false:=by{(cases hik:fi.k<;>first|rfl|exact absurd hik (hk1 _)|exact absurd hik (hk2 _ _))};split at h;{rename_i c hc;simp only [Q.ret.injEq] at h;obtain ⟨rfl,rfl⟩:=h;refine ⟨?_,qO (hM.live hx) λs hs=>?_⟩;{simp only [execOp,hop,hM.eval hx];exact fB (g2 c hk' hc)};{exact uk (Qv6 hc) hs}};{cases h}}};{cases h}};{cases h}};{cases h}};{cases h});(case h_21 op t x ix hop=>split at h;{rename_i i xv iv hi hx hix;have ⟨h1,h2⟩:=Bs (P:=P) (w:=w) (β:=β) hT (hT _ _ hi) h hsc;refine ⟨?_,qO (hM.live hx) h2⟩;simp only [execOp,hop,hM.eval hx,hM.eval hix];exact fB h1};{cases h});(case h_22 op x j hop=>split at h;{rename_i xs hx;split at h;{rename_i y hy;split at h;{rename_i z hz;simp only [Q.ret.injEq] at h;obtain ⟨rfl,rfl⟩:=h;have ⟨h1,h2⟩:=Qo (β:=β) hz;refine ⟨?_,qO (hM.live hx) λs hs=>Qy1.2 ⟨y,Qv6 hy,h2 s hs⟩⟩;have:(xs.map (j8 β))[j]?=some (z.den β):=by{rw [Qs6,hy];simp [h1]};simp [execOp,hop,hM.eval hx,SV.den,Instr.extract,hy,h1]};{cases h}};{cases h}};{cases h});(case h_23 op c hop=>split at h;{split at h;{split at h;{split at h;{split at h;{exact (I0 h).elim};{cases h}};{cases h}};{cases h}};{cases h}};{split at h;{exact (K3 h).elim};{cases h}};{rename_i b hb hb2 hc;split at h;{rename_i xs t ts hxs hts;split at h;{rename_i i hi;have ⟨h1,h2⟩:=iq hM _ _ hxs;have e1:c.argTypes=(t::ts).toArray:=by{apply Qd7;exact hts};have e2:c.args.map a.eval=(xs.map (SV.den β)).toArray:=by{apply Qd7;rw [Qf1];exact h1};have ⟨k1,k2⟩:=Gf (P:=P) (w:=w) (β:=β) (ts:=ts) (ty:=o.type) (cs:=c.args.map λ|.const _=>true|_=>false) (hT _ _ hi) h;refine ⟨?_,ct k2⟩;simp only [execOp,hop,resolve,hc,pure_bind,invoke,e1,e2];exact k1};{cases h}};{cases h}};{cases h});(case h_24 op t x ix hop=>split at h;{rename_i i s k m hi hx hix;split at h;{rename_i hk;have ⟨info,d,z,h1,h2,h3,h4,h5,h6,h7⟩:=aI (hT _ _ hi);rw [h4] at hk;obtain rfl:=xj hk;simp only [Q.ret.injEq] at h;obtain ⟨rfl,rfl⟩:=h;have hb:=hsc _ (Qq6.2 rfl);refine ⟨?_,ct rfl⟩;have hlt:m.toNat<s.size:=by{omega};have e:s.data.toList.getD m.toNat 0=s[m.toNat]'hlt:=by{have:s.data.toList[m.toNat]?=some (s[m.toNat]'hlt):=by{rw [Array.getElem?_toList];exact Array.getElem?_eq_getElem (by simpa using hlt)};rw [Qx3,this];rfl};simp only [execOp,hop,hM.eval hx,hM.eval hix,SV.den,C.den];grind [fB,run_index_string]};{cases h}};{rename_i i cs k m hi hx hix;unfold ny at h;split at h;{rename_i n e hk;split at h;{rename_i ei l Ia hl;split at h;{rename_i e2 hek;split at h;{rename_i hb;rw [Qx1] at hb;simp only [Q.ret.injEq] at h;obtain ⟨rfl,rfl⟩:=h;have hm:=hsc _ (Qq6.2 rfl);have ⟨info,d,z,h1,h2,h3,h4,h5,h6,h7⟩:=aI (hT _ _ hi);rw [h4] at hk;obtain rfl:=pL hk;have ⟨jF,ed,ez,e1,e2,e3,e4,e5,e6,e7⟩:=aI (hT _ _ Ia);refine ⟨?_,ct rfl⟩;have b1:=beq_eq.1 hb.1;have b2:=beq_eq.1 hb.2;have hc:=Nc hl (show m.toNat<l.length by omega);have hp:=(IV (w:=w) (β:=β) (hT _ _ Ia) cs m.toNat).2 _ (by rw [hek];rfl) hc;simp only [execOp,hop,hM.eval hx,hM.eval hix];refine fB ?_;have es:m.toNat*jF.size=m.toNat:=by{rw [←e5,b1,Qk5]};simp only [Instr.index,SV.den,C.den,fH,Sem.run_bind,Result.andThen_ok,ai h2,Sem.run_ite,if_pos hm,aR e1,es];exact hp};{cases h}};{cases h}};{cases h}};{cases h}};{cases h});(case h_25 op t x hop=>split at h;{rename_i i y hi hx;have ⟨info,d,z,h1,h2,h3,h4,h5,h6,h7⟩:=aI (hT _ _ hi);unfold Br at h;split at h;{cases h};{rename_i hk;split at h;{rename_i lf htup;simp only [Q.ret.injEq] at h;obtain ⟨rfl,rfl⟩:=h;refine ⟨?_,ct rfl⟩;simp only [execOp,hop,hM.eval hx];refine fB ?_;have hd:∀ms,d≠.interface ms:=λms e=>by{rw [e] at h4;exact hk h4};have e2:y.den β=y.den λ_=>0:=SV.bZ λs hs=>by{rw [lf] at hs;cases hs};show (Instr.makeInterface t (y.den β)).run P w=.ok (.iface t (y.den λ_=>0)) w;rw [e2];generalize y.den (λ_=>0)=u;simp only [Instr.makeInterface,Sem.run_bind,ai h2,Result.andThen_ok];(cases d<;>first|rfl|exact absurd rfl (hd _))};{cases h}}};{cases h});(case h_26=>cases h)
end Go.Eng
namespace Go.Eng
variable {P:Program} {T:eu} {n:Nat} {V0:View} {bQ:J8} {β0:Nat->Nat} {st:St} {β:Nat->Nat} {a:Act} {w:World} {V:View}
def ON (hT:eu.ok P T)(hM:Mod n V0 bQ β0 st β a w V){o:Oper}{sc:pz Prop}{b:aW}{x:Nat->SV}(h:aS T st.bC st.boxes o.op=.new sc b x)(hsc:∀p∈sc,p) :
  ∃v,(execOp a.eval o).run P w=.ok (.value v) (w.alloc (b.obj β))/\(∀d,v=(x d).den (dq β d w.heap.size)/\(x d).ids=[d])/\(∀s∈b.cs.ids,∃b',st.boxes s=some b'):=by have hx:∀d,SV.den (dq β d w.heap.size) (.c (.ptr d 0))=.pointer (some ⟨w.heap.size,0,none⟩):=λd=>by{simp [SV.den,C.den,aZ]};have hy:∀d m c,SV.den (dq β d w.heap.size) (.c (.oI d 0 m c))=.slice (some ⟨w.heap.size,0,none⟩) m c:=λd m c=>by{simp [SV.den,C.den,aZ]};unfold aS at h;split at h;(case h_1=>split at h<;>cases h);(case h_2=>split at h<;>cases h);(case h_3=>split at h<;>(try split at h)<;>cases h);(case h_4 op t hop=>split at h;{rename_i i hi;have ⟨info,d,z,h1,h2,h3,h4,h5,h6,h7⟩:=aI (hT _ _ hi);simp only [Q.new.injEq] at h;obtain ⟨rfl,rfl,rfl⟩:=h;have ⟨z1,z2⟩:=fS (β:=β) h7;refine ⟨.pointer (some ⟨w.heap.size,0,none⟩),?_,λd=>⟨(hx d).symm,rfl⟩,λs hs=>by rw [show Cells.ids (.lit i.zero)=[] from z2] at hs;cases hs⟩;simp only [execOp,hop];refine fB ?_;simp only [Instr.alloc,Sem.run_bind,kE h1 h3,Result.andThen_ok,newVar,newRow,run_newObj,Sem.run_pure,aW.obj,Cells.den,z1];rfl};{cases h});(case h_5 op t y hop=>split at h;{rename_i v hv;split at h;{cases h};{rename_i hnt;simp only [Q.new.injEq] at h;obtain ⟨rfl,rfl,rfl⟩:=h;obtain ⟨c1,-⟩:=SV.v_ (β:=β) hnt hsc;refine ⟨.pointer (some ⟨w.heap.size,0,none⟩),?_,λd=>⟨(hx d).symm,rfl⟩,λs hs=>hM.live hv s (SV.wb hnt hs)⟩;simp only [execOp,hop,hM.eval hv];refine fB ?_;simp only [Instr.box,newVar,newRow,Sem.run_bind,run_newObj,Result.andThen_ok,Sem.run_pure,c1,aW.obj,Cells.den];rfl}};{cases h});(case h_6=>split at h;{grind};{cases h});(case h_7 op t len parts hop=>split at h;{rename_i i ps hi hps;split at h;{rename_i e hk;split at h;{rename_i ei Ia;split at h;{rename_i hc;simp only [Qx1,beq_eq,Qc3] at hc;obtain ⟨⟨c1,c2⟩,c3⟩:=hc;have c1:=Qk0 c1;have c3:ei.size≠0:=λe=>by{rw [e] at c3;cases c3};split at h;{rename_i cs hcs;simp only [Q.new.injEq] at h;obtain ⟨rfl,rfl,rfl⟩:=h;have ⟨h1,h2⟩:=zT hT hM (hT _ _ hi) hk hps Ia c1 c2 c3 hcs hsc;exact ⟨_,by simp only [execOp,hop];exact fB h1,λd=>⟨(hy d _ _).symm,rfl⟩,h2⟩};{cases h}};{cases h}};{cases h}};{cases h}};{cases h});(case h_8=>split at h;{unfold lD at h;grind};{cases h});(case h_9=>split at h;{unfold je at h;grind};{cases h});(case h_10=>split at h<;>cases h);(case h_11=>split at h;{have key:∀{op xt} {p q:C},Ge T op xt p q≠.new sc b x:=by{intro op xt p q h;have hi:∀k m m',pR op k m m'≠.new sc b x:=λk m m' h=>by{cases op<;>cases h};have hn:∀neg k,Gg neg k p q≠.new sc b x:=λneg k h=>by{unfold Gg at h;split at h<;>(try split at h)<;>(try split at h)<;>cases h};unfold Ge at h;grind};grind};{cases h});(case h_12=>split at h<;>cases h);(case h_13=>split at h<;>cases h);(case h_14=>split at h<;>cases h);(case h_15=>split at h;{split at h<;>cases h};{cases h});(case h_16=>split at h<;>(try split at h)<;>(try split at h)<;>cases h);(case h_17 op t l c hop=>split at h;{rename_i i lv cv hi hl hc;unfold ES at h;split at h;{rename_i e hk;split at h;{rename_i ei Ia;split at h;{rename_i k1 m1 k2 m2;split at h;{rename_i zs hzs;split at h;{cases h};{rename_i hcond;simp only [Qh7,beq_eq,Qc3,not_or] at hcond;obtain ⟨⟨g1,g2⟩,g3⟩:=hcond;simp only [Q.new.injEq] at h;obtain ⟨rfl,rfl,rfl⟩:=h;have g3:ei.size=zs.length:=by{rcases hb:Nat.beq ei.size zs.length with _|_;{rw [hb] at g3;exact absurd rfl g3};{exact beq_eq.1 hb}};have hm:=Dd (P:=P) (w:=w) (β:=β) hT (hT _ _ hi) hk Ia (k1:=k1) (k2:=k2) (l:=m1) (c:=m2) g1 g2 hzs g3 (hsc _ (by simp)) (hsc _ (by simp)) (hsc _ (by simp));refine ⟨_,?_,λd=>⟨(hy d _ _).symm,rfl⟩,λs hs=>by simp [Cells.ids] at hs⟩;simp only [execOp,hop,hM.eval hl,hM.eval hc];exact fB hm}};{cases h}};{cases h}};{cases h}};{cases h}};{cases h});(case h_18=>split at h;{split at h;{split at h;{unfold wL at h;split at h<;>(try split at h)<;>(try split at h)<;>cases h};{cases h}};{cases h}};{cases h});(case h_19=>split at h;{grind};{cases h});(case h_20=>split at h;{split at h<;>grind};{cases h});(case h_21=>split at h;{unfold jd at h;grind};{cases h});(case h_22=>split at h<;>(try split at h)<;>(try split at h)<;>cases h);(case h_23=>split at h;{split at h;{split at h;{split at h;{split at h;{unfold df at h;grind};{cases h}};{cases h}};{cases h}};{cases h}};{grind [oF]};{split at h;{split at h;{unfold nw at h;grind};{cases h}};{cases h}};{cases h});(case h_24=>split at h;{split at h<;>cases h};{unfold ny at h;grind};{cases h});(case h_25=>split at h;{unfold Br at h;split at h;{cases h};{split at h<;>cases h}};{cases h});(case h_26=>cases h)
def eH:Q->Nat
 | .fail=>0|.ret ..=>1|.new ..=>2|.yw ..=>3|.rd ..=>4|.rM ..=>5|.app ..=>6|.wH ..=>6
def tz {op:BinOp}{k:IntKind}{x y:Int}:eH (pR op k x y)<=1:=by cases op<;>exact Qq2 _
def Jp {neg:md}{k:TK}{x y:C}:eH (Gg neg k x y)<=1:=by
 unfold Gg;split<;>(try split)<;>(try split)<;>first|exact Qq2 _|exact Qq4 _
def rQ {i:TI}{cs:pz C}{k:Int}:eH (ny T i cs k)<=1:=by unfold ny;split;{split;{split;{(split<;>first|exact Qq2 _|exact Qq4 _)};{exact Qq4 _}};{exact Qq4 _}};{exact Qq4 _}
def u_ {op:BinOp}{xt:TypeId}{x y:C}:eH (Ge T op xt x y)<=1:=by unfold Ge;split;{split;{split;{split;{exact tz};{exact tz};{split;{exact tz};{exact Qq4 _}}};{exact Qq4 _}};{split;{(split<;>first|exact Qq2 _|exact Qq4 _)};{exact Qq4 _}};{split;{exact Jp};{exact Jp};{exact Qq4 _}}};{exact Qq4 _}
def BQ {sz:Nat}{x:SV}{lo hi mx:Option SV}:eH (wL sz x lo hi mx)<=1:=by
 unfold wL;split<;>(try split)<;>(try split)<;>first|exact Qq2 _|exact Qq4 _
def qk {i:TI}{x ix:SV}:eH (jd T i x ix)<=1:=by
 unfold jd;split<;>(try split)<;>(try split)<;>(try split)<;>first|exact Qq2 _|exact Qq4 _
def va {b:Builtin}{k:TK}{xs:pz SV}:eH (nw b k xs)<=1:=by
 unfold nw;split<;>(try split)<;>(try split)<;>(try split)<;>first|exact Qq2 _|exact Qq4 _
def O1 {i:TI}{l c:SV}:eH (ES T i l c)=0\/eH (ES T i l c)=2:=by
 unfold ES;split<;>(try split)<;>(try split)<;>(try split)<;>(try split)<;>first|exact .inl rfl|exact .inr rfl
theorem BR {bx:Nat->Option aW}{i:TI}{a x:SV}:eH (je bx i a x)=0\/eH (je bx i a x)=3:=by
 unfold je;split<;>(try split)<;>(try split)<;>(try split)<;>(try split)<;>first|exact .inl rfl|exact .inr rfl
theorem E5 {bx:Nat->Option aW}{i:TI}{x:SV}:eH (lD bx i x)=0\/eH (lD bx i x)=1\/eH (lD bx i x)=4\/eH (lD bx i x)=5:=by
 unfold lD;split<;>(try split)<;>(try split)<;>(try split)<;>first|exact .inl rfl|exact .inr (.inl rfl)|exact .inr (.inr (.inl rfl))|exact .inr (.inr (.inr rfl))
def qj {bx:Nat->Option aW}{e:TypeId}{ei:TI}{b x:SV}:eH (df bx e ei b x)=0\/eH (df bx e ei b x)=6:=by unfold df;split;{exact .inl rfl};{split;{exact .inl rfl};{dsimp only;split;{exact .inl rfl};{(split<;>(try split)<;>(try split)<;>first|exact .inl rfl|exact .inr rfl)}}}
theorem BP {bx:Nat->Option aW}{t:TypeId}{x:SV}:eH (oE T bx t x)=0\/eH (oE T bx t x)=3:=by
 rcases oF (T:=T) (bx:=bx) (t:=t) (x:=x) with e|⟨_,_,_,e⟩<;>rw [e]<;>first|exact .inl rfl|exact .inr rfl
def ir {ρ:Operand->Option SV}{bx:Nat->Option aW}{op:Op} :
  (eH (aS T ρ bx op)=3->((∃t a x,op=.store t a x)\/∃c,op=.call c/\c.callee=.builtin .clear))/\(eH (aS T ρ bx op)=4\/eH (aS T ρ bx op)=5->∃t a,op=.load t a) /\
  (eH (aS T ρ bx op)=6->∃c,op=.call c/\c.callee=.builtin .append):=by
 have fE:∀{q:Q},eH q<=1->(eH q=3->((∃t a x,op=.store t a x)\/∃c,op=.call c/\c.callee=.builtin .clear))/\(eH q=4\/eH q=5->∃t a,op=.load t a)/\(eH q=6->∃c,op=.call c/\c.callee=.builtin .append):=by grind
 have le2:∀{q:Q},eH q=0\/eH q=2->(eH q=3->((∃t a x,op=.store t a x)\/∃c,op=.call c/\c.callee=.builtin .clear))/\(eH q=4\/eH q=5->∃t a,op=.load t a)/\(eH q=6->∃c,op=.call c/\c.callee=.builtin .append):=by intro q h;exact ⟨by omega,by omega,by omega⟩
 unfold aS;split
 case h_8=>
  split
  ·grind [E5]
  ·exact fE (Qq4 _)
 case h_9=>
  split
  ·grind [BR]
  ·exact fE (Qq4 _)
 case h_11=>
  split
  ·split;{split;{exact fE u_};{exact fE (Qq4 _)}};{exact fE u_}
  ·exact fE (Qq4 _)
 case h_17=>
  split
  ·exact le2 O1
  ·exact fE (Qq4 _)
 case h_18=>
  split
  ·split;{split;{exact fE BQ};{exact fE (Qq4 _)}};{exact fE (Qq4 _)}
  ·exact fE (Qq4 _)
 case h_21=>
  split
  ·exact fE qk
  ·exact fE (Qq4 _)
 case h_23 c=>
  split
  ·rename_i hc;refine ⟨λh=>?_,λh=>?_,λ_=>⟨c,rfl,hc⟩⟩;{exfalso;(split at h<;>(try split at h)<;>(try split at h)<;>(try split at h)<;>first|(rcases qj (bx:=bx) with h'|h'<;>(rw [h'] at h;cases h))|cases h)};{exfalso;(split at h<;>(try split at h)<;>(try split at h)<;>(try split at h)<;>first|(rcases qj (bx:=bx) with h'|h'<;>(rw [h'] at h;rcases h with h|h<;>cases h))|(rcases h with h|h<;>cases h))}
  ·rename_i hc;split;{grind [BP]};{exact fE (Qq4 _)}
  ·split;{split;{exact fE va};{exact fE (Qq4 _)}};{exact fE (Qq4 _)}
  ·exact fE (Qq4 _)
 case h_24=>
  split
  ·split;{exact fE (Qq2 _)};{exact fE (Qq4 _)}
  ·exact fE rQ
  ·exact fE (Qq4 _)
 case h_25=>
  split
  ·unfold Br;split;{exact fE (Qq4 _)};{split;{exact fE (Qq2 _)};{exact fE (Qq4 _)}}
  ·exact fE (Qq4 _)
 all_goals
  first
  | exact fE (Qq4 _)
  | ((repeat' split)<;>first|exact fE (Qq4 _)|exact fE (Qq2 _)|exact le2 (.inr rfl))
def K4 (hT:eu.ok P T)(hM:Mod n V0 bQ β0 st β a w V){t:TypeId}{x:SV}{sc:pz Prop}{s:Nat}{b:aW}(h:oE T st.boxes t x=.yw sc s b)(hsc:∀p∈sc,p)(ty:TypeId)(cs:Array md) :
  ∃w',(builtin .clear #[t] ty cs #[x.den β]).run P w=.ok (.value (.tuple #[])) w'/\Mod n V0 bQ β0 (st.box s b) β a w' V:=by unfold oE at h;split at h;{rename_i i N;split at h;{rename_i e H;split at h;{rename_i r O;split at h;{rename_i q g o k c R;split at h;{rename_i f B I;split at h;{cases h};{rename_i J;simp only [Q.yw.injEq] at h;obtain ⟨rfl,rfl,rfl⟩:=h;simp only [Qh7,beq_eq,Qz6,not_or,Bool.not_eq_false,Qz4] at J;obtain ⟨⟨c1,K⟩,c3⟩:=J;have ⟨info,d,z,h1,L,h3,S,h5,h6,h7⟩:=aI (hT _ _ N);have ⟨U,ed,A,W,e2,X,e4,Y,e6,Z⟩:=aI (hT _ _ O);rw [S] at H;obtain rfl:=bh H;have ⟨M,z2⟩:=fS (β:=β) Z;obtain ⟨d1,-⟩:=gj (β:=β) R;have a0:A.cells.size=U.size:=by{rw [←M,d1];simp [←Y,K]};have a1:A.cells.toList=q:=by{rw [←d1,←M]};have hle:o+k*r.size<=f.length:=hsc _ (by simp);have u:∀m,(vE m q).length=m*r.size:=λm=>by{rw [vF,K];simp [List.length_flatten]};have D:∀v∈vE k q,v.oneCell'=true:=λv E=>by{rw [vF] at E;have ⟨l,hl,E⟩:=List.mem_flatten.1 E;grind};have j:w.heap[β g]?=some (.cells f.toArray B (0,0)):=hM.row I dN;have key:=run_storeCells_at (P:=P) (β g) o B (vE k q) 0 f.toArray w j (by simpa [u] using hle) D;simp only [Qj1,u] at key;refine ⟨w.setRow (β g) (f.take o++vE k q++f.drop (o+k*r.size)).toArray,?_,hM.yw I dN (by intro s' F;simp [Cells.ids] at F) (by rw [lH j];rfl) rfl rfl rfl⟩;have y:(Builtin.clear_ #[t] ty #[SV.den β (.c (.oI g o k c))]).run P w=.ok (.tuple #[]) (w.setRow (β g) (f.take o++vE k q++f.drop (o+k*r.size)).toArray):=by{(cases k with|zero=>{have e0:(f.take o++vE 0 q++f.drop (o+0*r.size)).toArray=f.toArray:=by{rw [vF];simp};rw [e0,setRow_self w (β g) f.toArray B (0,0) j];simp [Builtin.clear_,ai L,SV.den,C.den]}|succ k=>{have ek:(Builtin.zeroCells A.cells (k+1)).toList=vE (k+1) q:=by{grind [Builtin.zeroCells,vP,vF]};have G:(zeroValue e).run P w=.ok A w:=kE W X w;simp only [Qy3] at key ⊢;simp [Builtin.clear_,ai L,SV.den,C.den,G,ek,key]})};simp only [builtin];exact fB y}};{cases h}};{cases h}};{cases h}};{cases h}};{cases h}
def OP (hT:eu.ok P T)(hM:Mod n V0 bQ β0 st β a w V){o:Oper}{sc:pz Prop}{s:Nat}{b:aW}(h:aS T st.bC st.boxes o.op=.yw sc s b)(hsc:∀p∈sc,p) :
  ∃nx w',(execOp a.eval o).run P w=.ok nx w'/\(nx=.skip\/∃v,nx=.value v)/\Mod n V0 bQ β0 (st.box s b) β a w' V:=by rcases (ir (T:=T) (ρ:=st.bC) (bx:=st.boxes) (op:=o.op)).1 (by rw [h];rfl) with ⟨t,y,x,d⟩|⟨c,d,k⟩;{rw [d] at h;simp only [aS] at h;split at h;{rename_i i C D l m e;have ⟨w',f,q⟩:=K6 hM (hT _ _ l) (hM.live e) h hsc;refine ⟨.skip,w',?_,.inl rfl,q⟩;simp only [execOp,d,hM.eval m,hM.eval e];exact run_u f};{cases h}};{obtain ⟨E,args,r⟩:=c;dsimp only at k;subst k;rw [d] at h;simp only [aS] at h;split at h;{rename_i x t g j;obtain ⟨f,-⟩:=iq hM _ _ g;have u:r=#[t]:=by{apply Qd7;exact j};have z:args.map a.eval=#[x.den β]:=by{apply Qd7;rw [Qf1];exact f};have ⟨w',A,B⟩:=K4 hT hM h hsc o.type (args.map λ|.const _=>true|_=>false);refine ⟨.value (.tuple #[]),w',?_,.inr ⟨_,rfl⟩,B⟩;simp only [execOp,d,resolve,pure_bind,invoke,u,z];exact A};{cases h}}
def So (hT:eu.ok P T)(hM:Mod n V0 bQ β0 st β a w V){o:Oper}{p:OA}{sh:zJ}(h:aS T st.bC st.boxes o.op=.rd p sh){x:SV}{k:Prop}
  (hx:x.ids=[])(hs:(∃c,x=.c c/\∃s',sh=.one s')\/∃cs l,x=.agg cs/\sh=.agg l/\cs.length=l.length)(hr:V.U5 p x k) :
  (execOp a.eval o).run P w=.ok (.value (x.den β)) w/\k:=by obtain ⟨t,y,b⟩:=(ir (T:=T) (ρ:=st.bC) (bx:=st.boxes) (op:=o.op)).2.1 (by rw [h];exact .inl rfl);rw [b] at h;simp only [aS] at h;split at h;{rename_i i m d e;unfold lD at h;split at h;{grind};{split at h;{rename_i f;simp only [Q.rd.injEq] at h;obtain ⟨rfl,rfl⟩:=h;have ⟨g,j⟩:=YT hM (hT _ _ d) (beq_eq.1 f) hx hs hr;refine ⟨?_,j⟩;simp only [execOp,b,hM.eval e];exact fB g};{cases h}};{cases h}};{cases h}
def I1 (hT:eu.ok P T)(hM:Mod n V0 bQ β0 st β a w V){o:Oper}{vs:pz un}{of size:Nat}{sh:zJ}(h:aS T st.bC st.boxes o.op=.rM vs of size sh){x:SV}
  (hx:x.ids=[])(hs:(∃c,x=.c c/\∃s',sh=.one s')\/∃cs l,x=.agg cs/\sh=.agg l/\cs.length=l.length)(hr:Vd vs of size x) :
  (execOp a.eval o).run P w=.ok (.value (x.den β)) w:=by obtain ⟨t,y,b⟩:=(ir (T:=T) (ρ:=st.bC) (bx:=st.boxes) (op:=o.op)).2.1 (by rw [h];exact .inr rfl);rw [b] at h;simp only [aS] at h;split at h;{rename_i i m g j;unfold lD at h;split at h;{split at h;{grind};{rename_i d;simp only [Q.rM.injEq] at h;obtain ⟨rfl,rfl,rfl,rfl⟩:=h;have f:=ET hM (hT _ _ g) (.inl d) hx hs hr;simp only [execOp,b,hM.eval j];exact fB f};{rename_i d;split at h;{cases h};{rename_i k;simp only [Q.rM.injEq] at h;obtain ⟨rfl,rfl,rfl,rfl⟩:=h;have f:=ET hM (hT _ _ g) (.inr ⟨d,λe=>k (by rw [e];rfl)⟩) hx hs hr;simp only [execOp,b,hM.eval j];exact fB f}};{cases h}};{split at h<;>cases h};{cases h}};{cases h}
end Go.Eng
