import Derived.Test.YtnnbfoejafcdlaaGreatDoorG15
import Derived.Test.YtnnbfoejafcdlaaGreatDoorG5
import Derived.Shelf.RegionOpenPlain
import Derived.Lib.Walk
import Derived.Lib.SliceRun
import Derived.Laws.NewBlocks
import Derived.Test.YtnnbfoejafcdlaaGreatDoorG9
import Derived.Test.YtnnbfoejafcdlaaGreatDoorG14
import Derived.Test.YtnnbfoejafcdlaaGreatDoorG13
import Derived.Test.YtnnbfoejafcdlaaGreatDoorG8
import Derived.Test.YtnnbfoejafcdlaaGreatDoorG12
set_option linter.unusedVariables false
open Go.IntKind (i64 u64 u32)
namespace Go.Proofs.Tryz
open Go.bM Go.RowKit Go.Lib
theorem qC:∃i z,prog.info? 211=some i/\i.zero=some z/\i.size=17/\i.bytes=128/\z.cells.size=17:=by
 have h:=mI 211 _ rfl
 unfold lu at h
 split at h
 ·rename_i i d a c
  split at h
  ·rename_i z b
   have h:=Option.some.inj h
   injection h with h1 h2 h3 h4
   refine ⟨i,z,a,b,h2,h3,?_⟩
   have:=congrArg List.length h4
   rw [List.length_map,Array.length_toList] at this
   rw [this]
   rfl
  ·cases h
 ·cases h
theorem eE (b o j:Nat):(⟨b,o,none⟩:Addr).add j=⟨b,o+j,none⟩:=by
 unfold Addr.add
 split
 ·rename_i h;subst h;rfl
 ·rfl
theorem O8 (w:World){t:TypeId}{i:TypeInfo}(h:prog.info? t=some i):(Go.sizeOf t).run prog w=.ok i.size w:=by
 simp [sizeOf,typeInfo,h]
set_option maxHeartbeats 4000000 in
set_option maxRecDepth 100000 in
theorem I3 (b n c i vb:Nat)(cs vs:List Value)(w:World)(hi:i<n)(hroom:n+1<=c)(hn63:n<=1000000)(hvb:vb≠b)(hcl:c*17<=cs.length)(hvl:vs.length=17)
  (hb:w.heap[b]?=some (.cells cs.toArray 211 (0,0)))(hv:w.heap[vb]?=some (.cells vs.toArray 211 (0,0)))
  (h1c:∀v∈(cs.take (n*17)).drop (i*17),v.oneCell'=true)(h1v:∀v∈vs,v.oneCell'=true) :
  Calls prog 164 #[.slice (some ⟨b,0,none⟩) n c,.int .i64 i,.slice (some ⟨vb,0,none⟩) 1 1] w fun e w'=>
   e=.returned (.slice (some ⟨b,0,none⟩) (n+1) c)/\w'=(w.drew.setCells b ((i+1)*17) ((cs.take (n*17)).drop (i*17))).setCells b (i*17) vs:=by
 obtain ⟨X,z,G,Y,H,Z,e5⟩:=qC
 have K:¬((i:Int)=(n:Int)):=by omega
 have q:(prog.info? 211).map (·.size)=some 17:=by rw [G];simp [H]
 have y:=underlying119
 have I:=underlying118
 have L:∀w,(Go.sizeOf 211).run prog w=.ok 17 w:=fun w=>by rw [O8 w G,H]
 have ru:=run_underlying y
 have rv:=run_underlying I
 have A:∀lb B,(callFunc 197 #[.slice (some ⟨vb,0,none⟩) 1 1,.slice (some ⟨b,(i+1)*17,none⟩) lb B]).run prog w=.ok (.value (.bool false)) w:=fun lb B=>by
  rw [run_callFunc_extern func197 (by kernel_rfl) (by kernel_rfl) (by kernel_rfl) (e:=Extern.SlicesOverlaps.overlaps #[118,118] #[4]) (by kernel_rfl),
   Lib.run_overlaps_apart w 118 4 211 I 17 L ⟨vb,0,none⟩ ⟨b,(i+1)*17,none⟩ 1 1 lb B hvb _ _ _ _ (Bi hv) (Bi hb) (by omega) (fU hv) (fU hv)]
  rfl
 obtain ⟨a,d⟩:∃a,a=(cs.take (n*17)).drop (i*17):=⟨_,rfl⟩
 rw [←d] at h1c ⊢
 have g:a.length=(n-i)*17:=by rw [d,List.length_drop,List.length_take];omega
 have l:∀(W:World)(o:Nat),W.heap[b]?=some (.cells cs.toArray 211 (0,0))->o<cs.length->(W.cell? ⟨b,o,none⟩).isSome=true:=fun W o M N=>by rw [bW M,List.getElem?_eq_getElem N];rfl
 have h:(w.drew).heap[b]?=some (.cells cs.toArray 211 (0,0)):=hb
 have r:∀x:Nat,Nat.min (n+1-i) (n+1-(i+1))=n-i:=fun _=>by simp only [Nat.min_def];split<;>omega
 have k:∀ty m C,(Builtin.copy_ #[119,119] ty #[.slice (some ⟨b,(i+1)*17,none⟩) (n+1-(i+1)) m,.slice (some ⟨b,i*17,none⟩) (n+1-i) C]).run prog w.drew=  .ok (goInt ((n-i:Nat):Int)) (w.drew.setCells b ((i+1)*17) a):=fun ty m C=>by
  have:=km (P:=prog) w.drew 119 119 ty 211 17 b ((i+1)*17) (n+1-(i+1)) m ⟨b,i*17,none⟩ (n+1-i) C a y q (by rw [r 0,g])
   (fun j v f=>by
    rw [eE b,bW h]
    rw [d,List.getElem?_drop,List.getElem?_take] at f
    split at f
    ·exact f
    ·cases f)
   (fun j f=>l _ _ h (by rw [g] at f;omega)) (fun j f=>fU h) h1c
  rw [r 0] at this
  exact this
 obtain ⟨u,D⟩:=dg a ((i+1)*17) cs w.drew h (by rw [g];omega)
 obtain ⟨p,s⟩:∃p,p=w.drew.setCells b ((i+1)*17) a:=⟨_,rfl⟩
 rw [←s] at k u D ⊢
 have J:Nat.min 1 (n+1-i)=1:=by simp only [Nat.min_def];split<;>omega
 have E:vb<w.heap.size:=(Array.getElem?_eq_some_iff.1 hv).1
 have F:p.heap[vb]?=some (.cells vs.toArray 211 (0,0)):=by rw [D.bI vb E hvb];exact hv
 have t:∀ty m,(Builtin.copy_ #[119,118] ty #[.slice (some ⟨b,i*17,none⟩) (n+1-i) m,.slice (some ⟨vb,0,none⟩) 1 1]).run prog p=.ok (goInt 1) (p.setCells b (i*17) vs):=fun ty m=>by
  have:=km (P:=prog) p 119 118 ty 211 17 b (i*17) (n+1-i) m ⟨vb,0,none⟩ 1 1 vs y q (by rw [J,hvl])
   (fun j v f=>by rw [eE vb,Nat.zero_add,bW F];exact f)
   (fun j f=>by rw [bW u,List.getElem?_eq_getElem (by rw [hvl] at f;simp only [List.length_append,List.length_take,List.length_drop,g];omega)];rfl) (fun j f=>fU u) h1v
  rw [J] at this
  exact this
 clear u D d h1c s
 have mixed:=mixed
 have O:i64.wrap ((i:Int)+1)=(i:Int)+1:=by rw [IntKind.wrap_i64];omega
 have Q:(0:Int)<=(i:Int)+1:=by omega
 have R:i<=n:=by omega
 have S:((i:Int)+1).toNat=i+1:=by omega
 have T:¬(c=i+1):=by omega
 have U:(i:Int)<=(n:Int)+1:=by omega
 have V:¬(c=i):=by omega
 go_enter func164,ntmps164
 go_wp2_with (simp only [A])
 go_region_law_o (refine nO rfl _ _ 119 119 rfl (.slice (some ⟨b,(i+1)*17,none⟩) (n+1-(i+1)) (c-(i+1))) (.slice (some ⟨b,i*17,none⟩) (n+1-i) (c-i)) (by simp [Act.eval,Act.put]) (by simp [Act.eval,Act.put]) (k 3 _ _) ?_)
 go_wp2_with (at_builtin;refine lI _ rfl _ _ 119 118 rfl _ _ rfl rfl (t _ _) ?_)
 go_ret
 exact ⟨rfl,rfl⟩
set_option maxHeartbeats 4000000 in
set_option maxRecDepth 100000 in
theorem Nl (b n c vb:Nat)(cs vs:List Value)(w:World)(hroom:n+1<=c)(hn63:n<=1000000)(hcl:c*17<=cs.length)(hvl:vs.length=17)
  (hb:w.heap[b]?=some (.cells cs.toArray 211 (0,0)))(hv:w.heap[vb]?=some (.cells vs.toArray 211 (0,0)))(h1v:∀v∈vs,v.oneCell'=true) :
  Calls prog 164 #[.slice (some ⟨b,0,none⟩) n c,.int .i64 n,.slice (some ⟨vb,0,none⟩) 1 1] w fun e w'=>
   e=.returned (.slice (some ⟨b,0,none⟩) (n+1) c)/\w'=w.setCells b (0+n*17) vs:=by
 obtain ⟨d,z,k,o,g,p,q⟩:=qC
 have h:=underlying119
 have i:=underlying118
 have r:=run_underlying h
 have s:=run_underlying i
 have mixed:=mixed
 have a:Src prog d.size 118 (.slice (some ⟨vb,0,none⟩) 1 1) 1 vs w:=Src.ofSlice w i ⟨vb,0,none⟩ 1 1 vs (by rw [g,hvl]) (fun j u f=>by rw [eE vb,Nat.zero_add,bW hv];exact f) h1v
 have l:∀j,j<vs.length->(w.cell? ⟨b,0+n*d.size+j,none⟩).isSome=true:=fun j f=>by rw [bW hb,g,List.getElem?_eq_getElem (by rw [hvl] at f;omega)];rfl
 have m:∀j,j<vs.length->w.frozen? ⟨b,0+n*d.size+j,none⟩=false:=fun j f=>fU hb
 go_enter func164,ntmps164
 go_wp2_with (at_builtin;refine wpList_append_room_src _ rfl _ _ 119 118 rfl 211 d h k b 0 n c rfl _ rfl 1 vs a hroom l m ?_)
 go_ret
 exact ⟨rfl,by rw [Nat.zero_add]⟩
set_option maxHeartbeats 4000000 in
set_option maxRecDepth 100000 in
theorem B9 (b n c vb:Nat)(cs vs:List Value)(w:World)(hnc:n<=c)(hroom:c<n+1)(hn63:n<=1000000)(hcl:c*17<=cs.length)(hvl:vs.length=17)
  (hb:w.heap[b]?=some (.cells cs.toArray 211 (0,0)))(hv:w.heap[vb]?=some (.cells vs.toArray 211 (0,0)))(h1v:∀v∈vs,v.oneCell'=true) :
  ∃z:Array Value,z.size=17/\Calls prog 164 #[.slice (some ⟨b,0,none⟩) n c,.int .i64 n,.slice (some ⟨vb,0,none⟩) 1 1] w fun e w'=>
   e=.returned (.slice (some ⟨w.heap.size,0,none⟩) (n+1) (grownCap w (n+1) c 211)) /\
   w'=w.drew.alloc (.cells ((cs.take (n*17)++vs).toArray++Builtin.zeroCells z (grownCap w (n+1) c 211-(n+1))) 211):=by
 obtain ⟨k,z,s,t,o,x,p⟩:=qC
 refine ⟨z.cells,p,?_⟩
 have q:=underlying119
 have r:=underlying118
 have y:=run_underlying q
 have A:=run_underlying r
 have mixed:=mixed
 have g:Src prog k.size 118 (.slice (some ⟨vb,0,none⟩) 1 1) 1 vs w:=Src.ofSlice w r ⟨vb,0,none⟩ 1 1 vs (by rw [o,hvl]) (fun j u f=>by rw [eE vb,Nat.zero_add,bW hv];exact f) h1v
 have l:(w.drew).heap[b]?=some (.cells cs.toArray 211 (0,0)):=hb
 have hold:(Builtin.firstCells k.size n (.slice (some ⟨b,0,none⟩) n c)).run prog w.drew=.ok (cs.take (n*17)).toArray w.drew:=by
  rw [o]
  exact run_firstCells_some w.drew 17 n ⟨b,0,none⟩ n c (cs.take (n*17)) (by rw [List.length_take];omega) (fun j v f=>by
   rw [eE b,Nat.zero_add,bW l]
   rw [List.getElem?_take] at f
   split at f
   ·exact f
   ·cases f)
 have a:∀ty,(Builtin.append_ #[119,118] ty #[.slice (some ⟨b,0,none⟩) n c,.slice (some ⟨vb,0,none⟩) 1 1]).run prog w=_:=fun ty=>
  run_append_grow_src w 119 118 ty 211 k z q s t (some ⟨b,0,none⟩) n c (cs.take (n*17)) hold _ 1 vs g hroom (by omega) (by rw [x];exact growslice_fits hroom (by omega))
 obtain ⟨m,h⟩:∃m,m=z.cells:=⟨_,rfl⟩
 rw [←h] at a ⊢
 obtain ⟨i,d⟩:∃i:Array Value,i=(cs.take (n*17)++vs).toArray++Builtin.zeroCells m (grownCap w (n+1) c 211-(n+1)):=⟨_,rfl⟩
 rw [←d] at a ⊢
 clear h p hold d
 go_enter func164,ntmps164
 go_wp2_with (at_builtin;refine Lib.wpList_append_run _ rfl _ _ _ _ rfl _ _ rfl rfl _ _ (a _) ?_)
 all_goals (go_ret;exact ⟨rfl,rfl⟩)
set_option maxHeartbeats 4000000 in
set_option maxRecDepth 100000 in
theorem KA (b n c i vb:Nat)(cs vs:List Value)(w:World)(hi:i<n)(hnc:n<=c)(hroom:c<n+1)(hn63:n<=1000000)(hvb:vb≠b)(hcl:c*17<=cs.length)(hvl:vs.length=17)
  (hb:w.heap[b]?=some (.cells cs.toArray 211 (0,0)))(hv:w.heap[vb]?=some (.cells vs.toArray 211 (0,0)))
  (h1c:∀v∈(cs.take (n*17)).drop (i*17),v.oneCell'=true)(h1v:∀v∈vs,v.oneCell'=true) :
  ∃z:Array Value,z.size=17/\Calls prog 164 #[.slice (some ⟨b,0,none⟩) n c,.int .i64 i,.slice (some ⟨vb,0,none⟩) 1 1] w fun e w'=>
   e=.returned (.slice (some ⟨w.heap.size,0,none⟩) (n+1) (grownCap w (n+1) c 211)) /\
   w'=(((w.alloc (.cells ((cs.take (i*17)).toArray++Builtin.zeroCells z (n+1-i)++Builtin.zeroCells z (grownCap w (n+1) c 211-(n+1))) 211)).drew.setCells w.heap.size (i*17) vs).drew).setCells w.heap.size ((i+1)*17) ((cs.take (n*17)).drop (i*17)):=by
 obtain ⟨X,z,I,e2,J,Y,D⟩:=qC
 refine ⟨z.cells,D,?_⟩
 have E:=underlying119
 have uV:=underlying118
 have uI:=underlying3
 have ru:=run_underlying E
 have rv:=run_underlying uV
 have rz:∀w,(Go.sizeOf 211).run prog w=.ok 17 w:=fun w=>by rw [O8 w I,J]
 have mixed:=mixed
 have a2:¬((i:Int)=(n:Int)):=by omega
 have a3:(c:Int)<(n:Int)+1:=by omega
 have A:(prog.info? 211).map (·.size)=some 17:=by rw [I];simp [J]
 have K:b<w.heap.size:=(Array.getElem?_eq_some_iff.1 hb).1
 have L:vb<w.heap.size:=(Array.getElem?_eq_some_iff.1 hv).1
 have B:(n:Int)+1-(i:Int)=((n+1-i:Nat):Int):=by omega
 have s:i+(n+1-i)=n+1:=by omega
 have M:(w.drew).heap[b]?=some (.cells cs.toArray 211 (0,0)):=hb
 have hold:(Builtin.firstCells X.size i (.slice (some ⟨b,0,none⟩) i c)).run prog w.drew=.ok (cs.take (i*17)).toArray w.drew:=by
  rw [J]
  exact run_firstCells_some w.drew 17 i ⟨b,0,none⟩ i c (cs.take (i*17)) (by rw [List.length_take];omega) (fun j v d=>by
   rw [eE b,Nat.zero_add,bW M]
   rw [List.getElem?_take] at d
   split at d
   ·exact d
   ·cases d)
 obtain ⟨p,t⟩:∃p,p=z.cells:=⟨_,rfl⟩
 rw [←t] at D ⊢
 have o:∀ty,(Builtin.append_ #[119,3] ty #[.slice (some ⟨b,0,none⟩) i c,.int .i64 ((n:Int)+1-(i:Int))]).run prog w =
   .ok (.slice (some ⟨w.heap.size,0,none⟩) (n+1) (grownCap w (n+1) c 211)) (w.drew.alloc (.cells ((cs.take (i*17)).toArray++Builtin.zeroCells p (n+1-i)++Builtin.zeroCells p (grownCap w (n+1) c 211-(n+1))) 211)):=fun ty=>by
  have h:=Lib.run_append_grow_zeros w 119 3 ty 211 X z .i64 .i64 E uI I e2 (some ⟨b,0,none⟩) i c (cs.take (i*17)) hold (n+1-i) (by omega) (by omega) (by omega) (by omega) (by rw [Y];omega) (by rw [Y,s];exact growslice_fits hroom (by omega))
  rw [s,←t] at h
  rw [B]
  exact h
 obtain ⟨G,F⟩:∃G,G=grownCap w (n+1) c 211:=⟨_,rfl⟩
 obtain ⟨a,k⟩:∃a:List Value,a.toArray=(cs.take (i*17)).toArray++Builtin.zeroCells p (n+1-i)++Builtin.zeroCells p (G-(n+1)):=⟨((cs.take (i*17)).toArray++Builtin.zeroCells p (n+1-i)++Builtin.zeroCells p (G-(n+1))).toList,by simp⟩
 rw [←F] at o ⊢
 rw [←k] at o ⊢
 have N:(n+1)*17<=a.length:=by
  have:=congrArg Array.size k
  simp [Builtin.zeroCells,D] at this
  omega
 obtain ⟨l,g⟩:∃l,l=(cs.take (n*17)).drop (i*17):=⟨_,rfl⟩
 rw [←g] at h1c ⊢
 have u:l.length=(n-i)*17:=by rw [g,List.length_drop,List.length_take];omega
 obtain ⟨q,f⟩:∃q,q=w.drew.alloc (.cells a.toArray 211):=⟨_,rfl⟩
 rw [←f] at o
 have H:q.heap[w.heap.size]?=some (.cells a.toArray 211 (0,0)):=by rw [f];exact Array.getElem?_push_size
 have O:q.heap[b]?=some (.cells cs.toArray 211 (0,0)):=by rw [f];exact (b_ w.drew _ K).trans hb
 have Z:q.heap[vb]?=some (.cells vs.toArray 211 (0,0)):=by rw [f];exact (b_ w.drew _ L).trans hv
 have Q:Nat.min 1 (n+1-i)=1:=by simp only [Nat.min_def];split<;>omega
 have m:∀(W:World),W.heap=q.heap->∀ty x,(Builtin.copy_ #[119,118] ty #[.slice (some ⟨w.heap.size,i*17,none⟩) (n+1-i) x,.slice (some ⟨vb,0,none⟩) 1 1]).run prog W=.ok (goInt 1) (W.setCells w.heap.size (i*17) vs):=fun W y ty x=>by
  have:=km (P:=prog) W 119 118 ty 211 17 w.heap.size (i*17) (n+1-i) x ⟨vb,0,none⟩ 1 1 vs E A (by rw [Q,hvl])
   (fun j v d=>by rw [eE vb,Nat.zero_add,bW (by rw [y];exact Z)];exact d)
   (fun j d=>by rw [bW (by rw [y];exact H),List.getElem?_eq_getElem (by omega)];rfl) (fun j d=>fU (by rw [y];exact H)) h1v
  rw [Q] at this
  exact this
 have R:b≠w.heap.size:=by omega
 have S:Nat.min (n-i) (n+1-(i+1))=n-i:=by simp only [Nat.min_def];split<;>omega
 have r:∀(W:World),W.heap=q.heap->∀ty x T,(Builtin.copy_ #[119,119] ty #[.slice (some ⟨w.heap.size,(i+1)*17,none⟩) (n+1-(i+1)) x,.slice (some ⟨b,i*17,none⟩) (n-i) T]).run prog (W.setCells w.heap.size (i*17) vs).drew=.ok (goInt ((n-i:Nat):Int)) ((W.setCells w.heap.size (i*17) vs).drew.setCells w.heap.size ((i+1)*17) l):=fun W y ty x T=>by
  obtain ⟨g1,g2⟩:=dg vs (i*17) a W (by rw [y];exact H) (by omega)
  have U:(W.setCells w.heap.size (i*17) vs).drew.heap[b]?=some (.cells cs.toArray 211 (0,0)):=by
   have:=g2.bI b (by rw [y];exact (Array.getElem?_eq_some_iff.1 O).1) R
   rw [y,O] at this
   exact this
  have C:(W.setCells w.heap.size (i*17) vs).drew.heap[w.heap.size]?=_:=g1
  have:=km (P:=prog) (W.setCells w.heap.size (i*17) vs).drew 119 119 ty 211 17 w.heap.size ((i+1)*17) (n+1-(i+1)) x ⟨b,i*17,none⟩ (n-i) T l E A (by rw [S,u])
   (fun j v d=>by
    rw [eE b,bW U]
    rw [g,List.getElem?_drop,List.getElem?_take] at d
    split at d
    ·exact d
    ·cases d)
   (fun j d=>by rw [bW C,List.getElem?_eq_getElem (by rw [u] at d;simp only [List.length_append,List.length_take,List.length_drop,hvl];omega)];rfl) (fun j d=>fU C) h1c
  rw [S] at this
  exact this
 have a4:n+1<=G:=by rw [F];exact grownCap_ge w _ _ _
 have a0:G<=9223372036854775807:=by
  have:=grownCap_le_maxLen w (n+1) c 211 (by unfold maxLen;omega)
  rw [←F] at this
  unfold maxLen at this
  omega
 have a5:¬(G=i):=by omega
 have a1:¬(G=i+1):=by omega
 have a6:¬(c=i):=by omega
 have hA:=m ((w.alloc (.cells a.toArray 211)).drew) (by rw [f];rfl)
 have a7:=m q rfl
 have V:=r ((w.alloc (.cells a.toArray 211)).drew) (by rw [f];rfl)
 subst f
 have a8:i64.wrap ((i:Int)+1)=(i:Int)+1:=by rw [IntKind.wrap_i64];omega
 have a9:i64.wrap ((n:Int)+1)=(n:Int)+1:=by rw [IntKind.wrap_i64];omega
 have b0:(0:Int)<=(i:Int)+1:=by omega
 have b5:i<=n:=by omega
 have b6:((i:Int)+1).toNat=i+1:=by omega
 have b7:(i:Int)<=(n:Int):=by omega
 clear B s hold k F N m r H O Z t D g h1c Q S u
 go_enter func164,ntmps164
 go_wp2_with (first
  | (at_builtin;refine Lib.wpList_append_run _ rfl _ _ _ _ rfl _ _ rfl rfl _ _ (o _) ?_)
  | (at_builtin;refine lI _ rfl _ _ 119 118 rfl _ _ rfl rfl (hA _ _) ?_))
 go_region_law_o (refine nO rfl _ _ 119 119 rfl (.slice (some ⟨w.heap.size,(i+1)*17,none⟩) (n+1-(i+1)) (G-(i+1))) (.slice (some ⟨b,i*17,none⟩) (n-i) (c-i)) (by simp [Act.eval,Act.put]) (by simp [Act.eval,Act.put]) (V 3 (G-(i+1)) (c-i)) ?_)
 go_wp2
 go_ret
 exact ⟨rfl,rfl⟩
end Go.Proofs.Tryz
namespace Go.Proofs.Tryz
open Go.bM
theorem QL {α:Type}{A B:List α}{k:Nat}(h:k<=A.length):(A.take k++B).drop k=B:=by
 rw [List.drop_append_of_le_length (by rw [List.length_take];omega),List.drop_eq_nil_of_le (by rw [List.length_take];omega),List.nil_append]
theorem TS {α:Type}{A B:List α}{j k:Nat}(hj:j<=k)(h:k<=A.length):(A.take k++B).take j=A.take j:=by
 rw [List.take_append_of_le_length (by rw [List.length_take];omega),List.take_take,Nat.min_eq_left hj]
theorem J3 {V:View}{ob vb n c i:Nat}{vs xs:List Value}(hs:V.w.heap[ob]?=some (.cells vs.toArray 211 (0,0)))(hx:V.X ob)(hv:V.w.heap[vb]?=some (.cells xs.toArray 211 (0,0)))
  (hne:ob≠vb)(hi:i<=n)(hnc:n<=c)(hc:n<=1000000)(hcl:c*17<=vs.length)(hl:xs.length=17)(h1c:∀v∈(vs.take (n*17)).drop (i*17),v.oneCell'=true)(h1v:∀v∈xs,v.oneCell'=true) :
  ab prog 164 #[.slice (some ⟨ob,0,none⟩) n c,.int .i64 i,.slice (some ⟨vb,0,none⟩) 1 1] V fun r V'=>∃(q c':Nat)(sp:List Value),r=.slice (some ⟨q,0,none⟩) (n+1) c' /\
   V'.w.heap[q]?=some (.cells (vs.take (i*17)++(xs++(vs.take (n*17)).drop (i*17))++sp).toArray 211 (0,0))/\(V.w.heap.size<=q\/q=ob)/\n+1<=c'/\c'*17<=(n+1)*17+sp.length /\
   V'.w.heap[vb]?=some (.cells xs.toArray 211 (0,0)):=by
 refine ⟨⟨f164,func164,rfl,by kernel_rfl⟩,?_⟩
 have M:ob<V.w.heap.size:=(Array.getElem?_eq_some_iff.1 hs).1
 have g:vb<V.w.heap.size:=(Array.getElem?_eq_some_iff.1 hv).1
 have d:((vs.take (n*17)).drop (i*17)).length=(n-i)*17:=by rw [List.length_drop,List.length_take];omega
 by_cases t:n+1<=c
 ·by_cases l:i<n
  ·refine (I3 ob n c i vb vs xs V.w l t hc (fun e=>hne e.symm) hcl hl hs hv h1c h1v).mono ?_
   rintro e y ⟨m,rfl⟩
   obtain ⟨A,h⟩:=dg ((vs.take (n*17)).drop (i*17)) ((i+1)*17) vs V.w.drew hs (by rw [d];omega)
   have N:(vs.take ((i+1)*17)).length=(i+1)*17:=by rw [List.length_take];omega
   obtain ⟨s,f⟩:=dg xs (i*17) _ _ A (by simp only [List.length_append,N,d];omega)
   have ex:=((vZ (·=ob) V.w).trans h).trans f
   refine ⟨_,m,ex.mono fun b e=>e▸hx,ob,c,vs.drop ((i+1)*17+((vs.take (n*17)).drop (i*17)).length),rfl,?_,.inr rfl,t,?_,?_⟩
   ·refine s.trans ?_
    congr 3
    rw [List.append_assoc,hl,List.append_assoc (vs.take ((i+1)*17)),TS (by omega) (by omega),show i*17+17=(i+1)*17 by omega,QL (by omega)]
    simp only [List.append_assoc]
   ·rw [List.length_drop,d];omega
   ·exact (ex.bI vb g fun e=>hne e.symm).trans hv
  ·obtain rfl:i=n:=by omega
   refine (Nl ob i c vb vs xs V.w t hc hcl hl hs hv h1v).mono ?_
   rintro e y ⟨m,rfl⟩
   obtain ⟨s,f⟩:=dg xs (0+i*17) vs V.w hs (by omega)
   refine ⟨_,m,f.mono fun b e=>e▸hx,ob,c,vs.drop (0+i*17+xs.length),rfl,?_,.inr rfl,t,?_,?_⟩
   ·refine s.trans ?_
    congr 3
    rw [show (vs.take (i*17)).drop (i*17)=[] from List.drop_eq_nil_of_le (by rw [List.length_take];omega),Nat.zero_add,List.append_nil]
   ·rw [List.length_drop];omega
   ·exact (f.bI vb g fun e=>hne e.symm).trans hv
 ·by_cases l:i<n
  ·obtain ⟨z,B,C⟩:=KA ob n c i vb vs xs V.w l hnc (by omega) hc (fun e=>hne e.symm) hcl hl hs hv h1c h1v
   refine C.mono ?_
   rintro e y ⟨m,rfl⟩
   have D:=Go.grownCap_ge V.w (n+1) c 211
   generalize Go.grownCap V.w (n+1) c 211=G at *
   obtain ⟨a,j⟩:∃a:List Value,a.toArray=(vs.take (i*17)).toArray++Builtin.zeroCells z (n+1-i)++Builtin.zeroCells z (G-(n+1)):=⟨((vs.take (i*17)).toArray++Builtin.zeroCells z (n+1-i)++Builtin.zeroCells z (G-(n+1))).toList,by simp⟩
   have J:a=vs.take (i*17)++((Builtin.zeroCells z (n+1-i)).toList++(Builtin.zeroCells z (G-(n+1))).toList):=by
    have:=congrArg Array.toList j
    simpa using this
   have p:∀k,(Builtin.zeroCells z k).toList.length=k*17:=fun k=>by simp [Builtin.zeroCells,B]
   have u:(vs.take (i*17)).length=i*17:=by rw [List.length_take];omega
   have E:a.length=i*17+(n+1-i)*17+(G-(n+1))*17:=by rw [J];simp only [List.length_append,p,u];omega
   rw [←j]
   have O:(V.w.alloc (.cells a.toArray 211)).drew.heap[V.w.heap.size]?=some (.cells a.toArray 211 (0,0)):=Array.getElem?_push_size
   have x:fq (·=ob) V.w (V.w.alloc (.cells a.toArray 211)).drew:=(sf _ _ _).trans (vZ _ _)
   obtain ⟨A,h⟩:=dg xs (i*17) a _ O (by omega)
   obtain ⟨s,f⟩:=dg ((vs.take (n*17)).drop (i*17)) ((i+1)*17) _ (World.drew _) A (by simp only [List.length_append,List.length_take,List.length_drop,d];omega)
   have F:V.w.heap.size<=_:=x.size
   have K:∀{X:Nat->Prop},fq X V.w _:=fun {X}=>by
    refine ⟨Nat.le_trans F (Nat.le_trans h.size f.size),fun b H _=>?_,?_,?_,?_⟩
    ·exact (f.bI b (Nat.lt_of_lt_of_le H (Nat.le_trans F h.size)) (by omega)).trans ((h.bI b (Nat.lt_of_lt_of_le H F) (by omega)).trans ((sf (fun _=>False) V.w (.cells a.toArray 211)).bI b H id))
    ·exact f.os.trans (h.os.trans x.os)
    ·exact f.tape.trans (h.tape.trans x.tape)
    ·exact f.out.trans (h.out.trans x.out)
   refine ⟨_,m,K,V.w.heap.size,G,(a.drop ((n+1)*17)),rfl,?_,.inl (Nat.le_refl _),D,?_,?_⟩
   ·refine s.trans ?_
    have L:a.take (i*17)=vs.take (i*17):=by rw [J,List.take_append_of_le_length (by rw [u];exact Nat.le_refl _),List.take_of_length_le (by rw [u];exact Nat.le_refl _)]
    have I:(a.take (i*17)++xs).length=(i+1)*17:=by rw [List.length_append,L,u,hl];omega
    have P:(a.take (i*17)++xs++a.drop (i*17+xs.length)).take ((i+1)*17)=a.take (i*17)++xs:=by rw [←I,List.take_left'];rfl
    have Q:(a.take (i*17)++xs++a.drop (i*17+xs.length)).drop ((i+1)*17+((vs.take (n*17)).drop (i*17)).length)=a.drop ((n+1)*17):=by
     rw [List.drop_append,List.drop_eq_nil_of_le (by rw [I];omega),List.nil_append,List.drop_drop,I,d,hl]
     congr 1;omega
    rw [P,Q,L]
    simp only [List.append_assoc]
   ·rw [List.length_drop,E];omega
   ·exact (@K fun _=>False).bI vb g id |>.trans hv
  ·obtain rfl:i=n:=by omega
   obtain ⟨z,B,C⟩:=B9 ob i c vb vs xs V.w hnc (by omega) hc hcl hl hs hv h1v
   refine C.mono ?_
   rintro e y ⟨m,rfl⟩
   have D:=Go.grownCap_ge V.w (i+1) c 211
   generalize Go.grownCap V.w (i+1) c 211=G at *
   have p:∀k,(Builtin.zeroCells z k).toList.length=k*17:=fun k=>by simp [Builtin.zeroCells,B]
   have ex:∀{X:Nat->Prop} {o:Obj},fq X V.w (V.w.drew.alloc o):=(vZ _ _).trans (sf _ _ _)
   refine ⟨_,m,ex,V.w.heap.size,G,(Builtin.zeroCells z (G-(i+1))).toList,rfl,?_,.inl (Nat.le_refl _),D,?_,?_⟩
   ·refine (Array.getElem?_push_size (xs:=V.w.heap)).trans ?_
    congr 2
    rw [show (vs.take (i*17)).drop (i*17)=[] from List.drop_eq_nil_of_le (by rw [List.length_take];omega),List.append_nil]
    apply Array.ext'
    simp
   ·rw [p];omega
   ·exact ((ex (X:=fun _=>False)).bI vb g id).trans hv
end Go.Proofs.Tryz
namespace Go.Proofs.Tryz
open Go.bM Go.fR
theorem As {V:View}{v:Value}{p:Rat×Rat}(h:oF V v p.1 p.2){k:Nat}(s1:Sz k p.1)(s2:Sz k p.2)(hk:k<=1099511627776) :
  ab prog 196 #[v] V fun r V'=>r=.int .i64 (ai.half p):=by
 obtain ⟨n,o,q,s,t,u,rfl,e,w⟩:=h
 refine xL n o q s t u V _ fun C i=>(eF (w.le i) s2 hk).mono ?_
 rintro r V2 x rfl
 have f:=i.trans x
 refine ⟨_,rfl,fun b D E=>?_,fun b=>⟨fun c F j=>(eF (e.le (f.trans j)) s1 hk).mono ?_,fun c=>⟨fun a G l=>?_,fun a H y=>(eF (e.le (f.trans y)) s1 hk).mono ?_⟩⟩⟩
 ·have b:p.2.num.sign>0:=of_decide_eq_true b
  unfold ai.half;rw [if_pos (.inl b)]
 ·have b:¬p.2.num.sign>0:=of_decide_eq_false b
  have c:p.2.num.sign=0:=by simpa using c
  rintro r I z rfl
  refine ⟨_,rfl,fun a J K=>?_,fun a=>⟨fun g L M=>?_,fun g N A=>(eF (e.le (f.trans (j.trans (z.trans A)))) s1 hk).mono ?_⟩⟩
  ·have a:p.1.num.sign>0:=of_decide_eq_true a
   unfold ai.half;rw [if_pos (.inr ⟨c,a⟩)]
  ·have g:p.2.num.sign<0:=of_decide_eq_true g
   omega
  ·have a:¬p.1.num.sign>0:=of_decide_eq_false a
   have m:¬(p.2.num.sign>0\/p.2.num.sign=0/\p.1.num.sign>0):=by omega
   rintro r O P rfl
   refine ⟨_,rfl,fun d Q B=>?_,fun d R S=>?_⟩
   ·have d:p.1.num.sign<0:=of_decide_eq_true d
    unfold ai.half;rw [if_neg m,if_pos (.inr d)]
   ·have d:¬p.1.num.sign<0:=of_decide_eq_false d
    unfold ai.half;rw [if_neg m,if_neg (by omega)]
 ·have b:¬p.2.num.sign>0:=of_decide_eq_false b
  have c:¬p.2.num.sign=0:=by simpa using c
  have a:p.2.num.sign<0:=of_decide_eq_true a
  unfold ai.half;rw [if_neg (by omega),if_pos (.inl a)]
 ·have b:¬p.2.num.sign>0:=of_decide_eq_false b
  have c:¬p.2.num.sign=0:=by simpa using c
  have a:¬p.2.num.sign<0:=of_decide_eq_false a
  omega
theorem N7 (q:Rat):-1<=q.num.sign/\q.num.sign<=1:=by
 rcases Int.lt_trichotomy q.num 0 with h|h|h
 ·rw [Int.sign_eq_neg_one_of_neg h];omega
 ·rw [h];decide
 ·rw [Int.sign_eq_one_of_pos h];omega
theorem Dr {V:View}{v w:Value}{a b:Rat×Rat}(h:oF V v a.1 a.2)(h':oF V w b.1 b.2){k:Nat}(s1:Sz k a.1)(s2:Sz k a.2)(s3:Sz k b.1)(s4:Sz k b.2)(hk:4*k+3<274877906944) :
  ab prog 163 #[v,w] V fun r V'=>r=.int .i64 (ai.cS a b):=by
 have f:=h
 have c:=h'
 obtain ⟨n,o,q,p,s,u,rfl,-⟩:=h
 obtain ⟨x,y,t,z,A,B,rfl,-⟩:=h'
 refine CH n o q p s u x y t z A B V _ fun G d=>(As (f.le d) s1 s2 (by omega)).mono ?_
 rintro r V2 i rfl
 refine ⟨_,rfl,fun H j=>(As (c.le (d.trans (i.trans j))) s3 s4 (by omega)).mono ?_⟩
 rintro r I C rfl
 have l:=d.trans (i.trans (j.trans C))
 refine ⟨_,rfl,fun g J K=>?_,fun g=>⟨fun e L M=>?_,fun e N m=>(gJ (f.le (l.trans m)) (c.le (l.trans m)) s1 s2 s3 s4 hk).mono ?_⟩⟩
 ·unfold ai.cS;rw [if_pos (of_decide_eq_true g)]
 ·unfold ai.cS;rw [if_neg (of_decide_eq_false g),if_pos (of_decide_eq_true e)]
 ·rintro r O P gc
  have D:=gc
  obtain ⟨Q,R,S,rfl⟩:=gc.shape
  refine ⟨_,_,_,rfl,fun T E=>(eF (D.le E) (lK s1 s2 s3 s4) (by omega)).mono ?_⟩
  rintro r U F rfl
  refine ⟨_,rfl,fun W X=>?_⟩
  have Y:=N7 (a.1*b.2-a.2*b.1)
  rw [ay (by omega)]
  unfold ai.cS;rw [if_neg (of_decide_eq_false g),if_neg (of_decide_eq_false e)]
  show _=Value.int .i64 (-(a.1*b.2-a.2*b.1).num.sign)
  congr 1;omega
def PD:Rat×Rat:=(0,0)
def RV (a b:Rat×Rat):Int:=ai.cS a b
def Mt (V:View)(v:Value)(c:Rat×Rat):Prop:=oF V v c.1 c.2/\Sz 100000 c.1/\Sz 100000 c.2
theorem Mt.le {V V':View}{v:Value}{c:Rat×Rat}(h:Mt V v c)(l:V.Le V'):Mt V' v c:=⟨h.1.le l,h.2⟩
theorem Mt.shape {V:View}{v:Value}{c:Rat×Rat}(h:Mt V v c):∃(x y:Int)(p:OA)(xb yb:Int)(pb:OA),v=.agg #[.int .i64 x,.int .i64 y,.pointer p,.int .i64 xb,.int .i64 yb,.pointer pb]:=by
 obtain ⟨⟨a,b,p,d,f,q,e,-⟩,-⟩:=h;exact ⟨_,_,_,_,_,_,e⟩
def eP (a b:Rat×Rat):Bool:=ai.eP a b
def qI (p:Rat×Rat):Rat×Rat:=(p.1*(iL p.1 p.2)⁻¹,p.2*(iL p.1 p.2)⁻¹)
theorem HL {V:View}{v:Value}{l:L3}(h:yv V v l)(hb:Bd l):ab prog 135 #[v] V fun r V'=>oF V' r (ai.au l).1 (ai.au l).2:=lT h hb.fa.1 hb.fa.2.1 hb.fa.2.2 (by omega)
theorem eo {l:L3}(hb:Bd l):Sz 1000 (ai.au l).1/\Sz 1000 (ai.au l).2:=⟨hb.fa.2.1,hb.fa.1.neg⟩
theorem Hw {V:View}{v lv:Value}{s:Sd}{l:L3}(h:gW V v s)(hl:yv V lv l)(hb:Bd l):ab prog 162 #[v,lv] V fun r V'=>r=.int .i64 (ai.cS (ai.au s.1) (ai.au l)):=by
 have a:=hl
 obtain ⟨_,_,_,_,_,_,_,_,_,_,_,_,_,_,_,rfl⟩:=h.shape
 obtain ⟨j,o,-,-⟩:=h.both
 have b:=h.2.1
 obtain ⟨_,_,_,_,_,_,_,_,_,rfl,-,-,-⟩:=hl
 refine pL _ _ _ _ _ _ _ _ _ _ _ _ _ _ _ _ _ _ _ _ _ _ _ _ _ _ V _ fun p d=>(HL (j.le d) b).mono ?_
 rintro r V2 k g
 have m:=g
 obtain ⟨_,_,_,_,_,_,rfl,-,-⟩:=g
 refine ⟨_,_,_,_,_,_,rfl,fun q e=>(HL (a.le (d.trans (k.trans e))) hb).mono ?_⟩
 rintro r t n f
 have c:=f
 obtain ⟨_,_,_,_,_,_,rfl,-,-⟩:=f
 refine ⟨_,_,_,_,_,_,rfl,fun u i=>(Dr (m.le (e.trans (n.trans i))) (c.le i) (eo b).1 (eo b).2 (eo hb).1 (eo hb).2 (by omega)).mono ?_⟩
 rintro r w x rfl
 exact ⟨_,rfl,fun y z=>rfl⟩
theorem IX {i j:Nat}(hi:i<=1000000)(hj:j<=1000000):i64.wrap ((u64.wrap (i64.wrap ((i:Int)+(j:Int)))).fdiv (2^1))=(((i+j) / 2:Nat):Int):=by
 have a:i64.wrap ((i:Int)+(j:Int))=(i:Int)+(j:Int):=ay (by omega)
 have b:u64.wrap ((i:Int)+(j:Int))=(i:Int)+(j:Int):=aM (by omega)
 have:((i:Int)+(j:Int)).fdiv (2^1)=(((i+j) / 2:Nat):Int):=by
  rw [Int.fdiv_eq_ediv_of_nonneg _ (by decide)]
  omega
 rw [a,b,this,ay (by omega)]
theorem Ir {V:View}{lb n c:Nat}{vs:List Value}{r:List Sd}{lv:Value}{l:L3}(hw:V.w.heap[lb]?=some (.cells vs.toArray 211 (0,0)))(hx:V.X lb)(hr:Row 17 gW V vs r)(hn:n=r.length)(hs:n<=1000000)(hl:yv V lv l)(hb:Bd l)
  (rM:r.Pairwise fun s u=>ai.cS (ai.au s.1) (ai.au u.1)<0) :
  ab prog 161 #[.slice (some ⟨lb,0,none⟩) n c,lv,.func (.func 162) #[] #[]] V fun q V'=>∃(i:Nat)(b:Bool),q=.tuple #[.int .i64 i,.bool b]/\i<=n/\(∀v:Sp,nA (l,v) r=r.take i++(l,v)::r.drop i) /\
   V'.w.heap[lb]?=some (.cells vs.toArray 211 (0,0)):=by
 have k:=hl
 subst hn
 obtain ⟨_,_,_,_,_,_,_,_,_,rfl,-,-,-⟩:=hl
 refine jN lb _ c vs _ _ _ _ _ _ _ _ _ V _ hw hx ⟨fun z V'=>∃i j:Nat,z.1=(i:Int)/\z.2=(j:Int)/\Bs r l i j,fun z=>z.2.toNat-z.1.toNat,⟨(0,(r.length:Int)),by and_intros<;>rfl,0,r.length,rfl,rfl,Bs.start r l⟩,?_⟩
 rintro ⟨Y,Z⟩ J o ⟨i,j,F,G,f⟩
 dsimp only at F G
 subst F G
 have ble:=f.le
 have K:=f.len
 have m:=hr.le (V':=J) fun _ _ g=>gW.le g o
 refine ⟨rfl,fun a=>?_,fun a=>?_⟩
 ·have a:(i:Int)<(j:Int):=of_decide_eq_true a
  dsimp only
  rw [IX (by omega) (by omega)]
  have p:(i+j) / 2<j:=by omega
  have t:i<=(i+j) / 2:=by omega
  generalize (i+j) / 2=h at *
  have x:h<r.length:=by omega
  have w:i64.wrap ((h:Int)+1)=((h+1:Nat):Int):=by rw [ay (by omega)];rfl
  rw [Int.toNat_natCast,w,Nat.zero_add]
  obtain ⟨L,M,N,O,P,Q,R,S,T,b1,b2,b3,b4,U,W,y,A,d⟩:=H3 m x
  refine ⟨by omega,⟨by omega,by omega⟩,_,_,_,_,_,_,_,_,_,_,_,_,_,_,_,_,_,⟨y,A⟩,fun V2 H=>(Hw (d.le H) (k.le (o.trans H)) hb).mono ?_⟩
  rintro q V3 l3 rfl
  refine ⟨_,rfl,fun B=>⟨(((h+1:Nat):Int),(j:Int)),by dsimp only;omega,by and_intros<;>rfl,h+1,j,rfl,rfl,f.up rM p x (of_decide_eq_true B)⟩,fun B=>⟨((i:Int),(h:Int)),by dsimp only;omega,by and_intros<;>rfl,i,h,rfl,rfl,f.down t x (of_decide_eq_false B)⟩⟩
 ·have a:¬(i:Int)<(j:Int):=of_decide_eq_false a
  obtain rfl:i=j:=by omega
  dsimp only
  refine ⟨fun e=>?_,fun e V7 l7 C=>⟨i,false,rfl,by omega,fun v=>f.done v,C⟩⟩
  have e:(i:Int)<(r.length:Int):=of_decide_eq_true e
  have D:i<r.length:=by omega
  rw [Int.toNat_natCast,Nat.zero_add]
  obtain ⟨L,M,N,O,P,Q,R,S,T,b1,b2,b3,b4,U,W,y,A,d⟩:=H3 m D
  refine ⟨⟨by omega,by omega⟩,_,_,_,_,_,_,_,_,_,_,_,_,_,_,_,_,_,⟨y,A⟩,fun V4 I=>(Hw (d.le I) (k.le (o.trans I)) hb).mono ?_⟩
  rintro q V5 l5 rfl
  exact ⟨_,rfl,fun V6 l6 E=>⟨i,_,rfl,by omega,fun v=>f.done v,E⟩⟩
theorem wC {V V':View}{P:Prop}{b:Nat}(l:V.Le V')(h:P->V.w.heap.size<=b\/V.H b):V.Le (V'.shut.ke P b):=fun x o a=>by
 have c:=l x o a
 refine ⟨fun d=>d.elim c.1 ?_,c.2⟩
 rintro ⟨e,rfl,-⟩
 rcases h e with h|h
 ·have:=(Array.getElem?_eq_some_iff.1 a.2).1
  omega
 ·exact a.1 h
theorem IG {c:List Sd}{l:L3}{i:Nat}(hi:i<c.length):mW (c.take (i+1)) l=mW (c.take i) l++if eA c[i].1 c[i].2 l=true then [(c[i].1,dM c[i].1 c[i].2 l)] else []:=by
 unfold mW
 rw [List.take_add_one,List.getElem?_eq_getElem hi,List.filterMap_append]
 congr 1
 show List.filterMap _ [c[i]]=_
 by_cases h:eA c[i].1 c[i].2 l=true
 ·simp [h]
 ·simp [h]
theorem vP (c:List Sd)(l:L3):(mW c l).length<=c.length:=List.length_filterMap_le ..
theorem FX {c:List Sd}{l:L3}{v:Sp}(h:dI c l bD=some v):gU c l=some (nA (l,v) (mW c l)):=by unfold gU;rw [h]
theorem FV {c:List Sd}{l:L3}(h:dI c l bD=none):gU c l=if 0<fk c l then some c else none:=by unfold gU;rw [h]
set_option maxHeartbeats 1000000 in
theorem Dp {V:View}{cp:OA}{cn cc:Nat}{c:List Sd}{lv:Value}{l:L3}(h:cB 17 gW V cp cn c)(hl:yv V lv l)(hb:Bd l)(hn:c.length<=100000)(rM:c.Pairwise fun s u=>ai.cS (ai.au s.1) (ai.au u.1)<0) :
  ab prog 102 #[.slice cp cn cc,lv] V fun r V'=>∃q m e,r=.tuple #[.slice q m e,.bool (gU c l).isSome]/\(∀c',gU c l=some c'->cB 17 gW V' q m c'/\(cn<=cc->m<=e)):=by
 have f:=hl
 have h0:=h
 obtain rfl:=h.len
 obtain ⟨_,_,_,_,_,_,_,_,_,rfl,-,-,-⟩:=hl
 refine sP cp _ cc _ _ _ _ _ _ _ _ _ V _ fun V1 Q=>(tz (h.le Q fun _ _ g=>gW.le g Q) (f.le Q) hb (by omega)).mono ?_
 rintro r V2 l2 ⟨w,rfl,gv,sv⟩
 have Zk:=gv
 obtain ⟨_,_,_,_,_,_,rfl,-,-⟩:=gv
 have G:=Q.trans l2
 refine ⟨_,_,_,_,_,_,_,_,_,rfl,fun A V3 R=>(BC (h0.le (G.trans R) fun _ _ g=>gW.le g (G.trans R)) (f.le (G.trans R)) hb (by omega)).mono ?_,fun A=>?_⟩
 ·have A:dI c l bD=none:=by simpa using A
  rintro r V4 l4 rfl
  have e1:Rh c l=fk c l:=by unfold Rh;rw [A];rfl
  have H:=FV A
  refine ⟨_,rfl,fun V5 l5=>⟨cp,c.length,cc,?_,fun c' e=>?_⟩⟩
  ·rw [e1,H]
   by_cases T:0<fk c l
   ·rw [if_pos T,decide_eq_true T];rfl
   ·rw [if_neg T,decide_eq_false T];rfl
  ·rw [H] at e
   split at e
   ·cases e
    have L5:=G.trans (R.trans (l4.trans l5))
    exact ⟨h0.le L5 fun _ _ g=>gW.le g L5,id⟩
   ·cases e
 have A:(dI c l bD).isSome=true:=by simpa using A
 obtain ⟨v,ev⟩:=Option.isSome_iff_exists.1 A
 rw [ev] at Zk sv ⊢
 have H:=FX ev
 have w1:i64.wrap ((c.length:Int)+1)=((c.length+1:Nat):Int):=by rw [ay (by omega)];rfl
 rw [w1,Int.toNat_natCast]
 refine ⟨by omega,by omega,by omega,fun z V'=>∃i:Nat,z.2.2.2=(i:Int)/\i<=c.length/\GR 17 gW V' z.1 z.2.1 z.2.2.1 (mW (c.take i) l)/\z.2.1≠0,fun z=>c.length-z.2.2.2.toNat,
  ⟨(0,c.length+1,pT (c.length+1) [.int .i64 0,.int .i64 0,.pointer none,.int .i64 0,.int .i64 0,.pointer none,.int .i64 0,.int .i64 0,.pointer none,.int .i64 0,.int .i64 0,.pointer none,.int .i64 0,.int .i64 0,.pointer none,.bool false,.bool false],0),by and_intros<;>first|rfl|omega,0,rfl,Nat.zero_le _,⟨rfl,Nat.zero_le _,?_,Row.nil⟩,by dsimp only;omega⟩,?_⟩
 ·show _<=(List.replicate (c.length+1) _).flatten.length
  rw [List.length_flatten,List.map_replicate,List.sum_replicate_nat]
  exact Nat.le_refl _
 rintro ⟨C,z2,vs,z4⟩ V6 l6 ⟨i,e4,Us,t,D⟩
 dsimp only at e4 t D
 subst e4
 have U:=G.trans l6
 have F:=t.len
 have VY:=t.le
 have I:=t.cap
 try dsimp only at F VY I
 have Zj:=vP (c.take i) l
 rw [List.length_take] at Zj
 refine ⟨rfl,fun j=>?_,fun j=>⟨fun d=>?_,fun d W X bk g1 g2=>?_⟩⟩
 ·have j:(i:Int)<c.length:=of_decide_eq_true j
  have x:i<c.length:=by omega
  have w:i64.wrap ((i:Int)+1)=((i+1:Nat):Int):=by rw [ay (by omega)];rfl
  dsimp only
  rw [Int.toNat_natCast,w]
  obtain ⟨ps,a1,a2,a3,a4,a5,a6,a7,a8,a9,b1,b2,b3,b4,b5,b6,a,ha,k0,Y,Z,k3,k4,k5,k6,k7,k8,k9,a0,b0,b7,b8,b9,c0,c1,hr⟩:=ja (h0.le U fun _ _ g=>gW.le g U) x
  obtain ⟨rl,ri,-,-⟩:=hr.both
  have J:=hr.2
  have ct:=IG (l:=l) x
  generalize c[i]=S at *
  refine ⟨ps,⟨by omega,by omega⟩,_,_,_,_,_,_,_,_,_,_,_,_,_,_,_,_,_,a,ha,k0,Y,Z,k3,k4,k5,k6,k7,k8,k9,a0,b0,b7,b8,b9,c0,c1,fun V7 K=>(Dq (rl.le K) (ri.le K) (f.le (U.trans K)) (k:=100000) (J.1.fa.up (by omega)) J.2 (hb.fa.up (by omega)) (by omega)).mono ?_⟩
  rintro r V8 l8 ⟨w8,rfl,g⟩
  have g0:=g
  obtain ⟨_,_,_,_,_,_,rfl,-,-⟩:=g
  have ZJ:=t.mono (V':=V8) fun _ _ g=>gW.le g (K.trans l8)
  refine ⟨_,_,_,_,_,_,_,_,_,rfl,fun E=>⟨by omega,VY,I,rfl,Ll,fun sp c' h1 h2=>⟨(C+1,c',_,((i+1:Nat):Int)),by dsimp only;omega,by and_intros<;>rfl,i+1,rfl,x,?_,by dsimp only;omega⟩⟩,fun E=>⟨(C,z2,vs,((i+1:Nat):Int)),by dsimp only;omega,by and_intros<;>rfl,i+1,rfl,x,?_,D⟩⟩
  ·have E:eA S.1 S.2 l=true:=E
   dsimp only
   rw [ct,if_pos E]
   exact ZJ.snoc (a:=(S.1,dM S.1 S.2 l)) rfl ⟨⟨_,_,_,_,_,_,_,_,_,_,_,_,_,_,_,rfl,rl.le (K.trans l8),g0⟩,J.1,CB J.1.fa hb.fa J.2 (by omega)⟩ (by decide) h1 h2
  ·have E:¬eA S.1 S.2 l=true:=by rw [show eA S.1 S.2 l=false from E];exact Bool.false_ne_true
   dsimp only
   rw [ct,if_neg E,List.append_nil]
   exact ZJ
 ·have d:vs=[]:=d
  rw [d] at I
  simp at I
  omega
 have j:¬(i:Int)<c.length:=of_decide_eq_false j
 obtain rfl:i=c.length:=by omega
 rw [List.take_length] at t F
 have Zj:=vP c l
 have d:vs≠[]:=d
 have OG:∀b,mA b z2=some ⟨b,0,none⟩:=fun b=>by unfold mA;rw [if_neg D]
 dsimp only
 rw [OG]
 have JK:=U.trans X
 refine (Ir (V:=W.bz [vb vs W.w.heap.size bk]) (r:=mW c l) (l:=l) (g1 d) ⟨by simp [O_ d],g2 d⟩ (t.row.le fun _ _ g=>gW.le g fun b o h=>X b o h) F (by omega) (yv.le (V:=V) (V':=W.bz _) f fun b o h=>JK b o h) hb (DH rM)).mono ?_
 rintro r lN dp ⟨at_,fb,rfl,c2,L,e5⟩
 refine ⟨_,_,rfl,d,vs,d,e5,fun B cV y M Y Z k3 k4 k5=>?_⟩
 rw [OG]
 have p:W.Le B:=fun b o h=>cV b o (dp b o h)
 have c5:B.w.heap.size>y:=(Array.getElem?_eq_some_iff.1 (Y d)).1
 have P5:Row 17 gW B vs (mW c l):=t.row.le fun _ _ g=>gW.le g (X.trans p)
 have N:∀u∈(vs.take (C*17)).drop (at_*17),u.oneCell'=true:=fun u hu=>by
  obtain ⟨m,hm,e⟩:=List.mem_iff_getElem.1 (List.mem_of_mem_drop hu)
  have O:m<(mW c l).length*17:=by rw [List.length_take,F] at hm;omega
  have:=List.getElem?_eq_getElem hm
  rw [e,List.getElem?_take,if_pos (by rw [F];exact O)] at this
  exact qN t.row (by decide) (fun xs _=>N5 xs) O this
 refine (J3 (V:=B.bz [vb vs B.w.heap.size y,M]) (ob:=y) (vb:=M) (n:=C) (c:=z2) (i:=at_) (vs:=vs) (xs:=[_,_,_,_,_,_,_,_,_,_,_,_,_,_,_,_,_]) (Y d) ⟨by simp [O_ d],Z d⟩ k3 (k5 d) c2 VY (by omega) I rfl N Ll).mono ?_
 rintro r mZ cQ ⟨q,c',sp,rfl,f1,f2,f3,f4,f5⟩
 have c3:B.w.heap.size<=q\/(vs≠[]/\q=y):=f2.imp id fun e=>⟨d,e⟩
 refine ⟨q,_,fun _=>f1,fun _=>c3,some ⟨q,0,none⟩,C+1,c',?_,_,_,_,_,_,_,_,_,_,_,_,_,_,_,_,_,_,f5,fun pe dF c4 m1=>⟨mA c4 c',C+1,c',?_,fun c6 e=>?_⟩⟩
 ·unfold mA;rw [if_neg (by omega)]
 ·rw [H];rfl
 ·rw [H] at e
  obtain rfl:=Option.some.inj e
  have KI:B.Le pe:=fun b o hx=>dF b o (wC (V:=B.bz _) (V':=mZ) (P:=_) (b:=q) cQ (fun _=>f2.elim .inl fun e=>.inr (by rw [e];exact Z d)) b o hx)
  have hR:=xd (sp:=sp) (P5.le fun _ _ g=>gW.le g KI) (k:=at_) (by omega) (xs:=[_,_,_,_,_,_,_,_,_,_,_,_,_,_,_,_,_]) (a:=(l,v)) rfl ⟨⟨_,_,_,_,_,_,_,_,_,_,_,_,_,_,_,rfl,f.le (JK.trans (p.trans KI)),Zk.le (l6.trans (X.trans (p.trans KI)))⟩,hb,sv⟩ (by decide)
  rw [L v]
  have hlen:C+1=((mW c l).take at_++(l,v)::(mW c l).drop at_).length:=by
   rw [List.length_append,List.length_cons,List.length_take,List.length_drop];omega
  rw [hlen]
  rw [←F] at hR
  exact ⟨cB.eZ m1 hR (by decide) (by rw [←hlen];exact f3),fun _=>by rw [←hlen];exact f3⟩
def Fy (k:Nat)(V:View)(v:Value)(c:Rat×Rat):Prop:=oF V v c.1 c.2/\Sz k c.1/\Sz k c.2
theorem Fy.le {k:Nat}{V V':View}{v:Value}{c:Rat×Rat}(h:Fy k V v c)(l:V.Le V'):Fy k V' v c:=⟨h.1.le l,h.2⟩
theorem Tk {a b:Int}{p:OA}{c d:Int}{q:OA}:∀v∈([.int .i64 a,.int .i64 b,.pointer p,.int .i64 c,.int .i64 d,.pointer q]:List Value),v.oneCell'=true:=by
 intro v hm
 simp only [List.mem_cons,List.not_mem_nil,or_false] at hm
 rcases hm with rfl|rfl|rfl|rfl|rfl|rfl<;>rfl
theorem qF {k:Nat}{V:View}{p:OA}{n:Nat}{al:List (Rat×Rat)}(h:cB 6 (Fy k) V p n al){i:Nat}(hi:i<al.length) :
  p.isSome=true/\∃(x y:Int)(q:OA)(x' y':Int)(q':OA)(a:Addr),ag p (i*6)=some a/\V.at (a.add 0) (.int .i64 x)/\V.at (a.add 1) (.int .i64 y)/\V.at (a.add 2) (.pointer q)/\V.at (a.add 3) (.int .i64 x')/\V.at (a.add 4) (.int .i64 y')/\V.at (a.add 5) (.pointer q') /\
   Fy k V (.agg #[.int .i64 x,.int .i64 y,.pointer q,.int .i64 x',.int .i64 y',.pointer q']) al[i]:=by
 obtain ⟨g,d,xs,j,f,b⟩:=h.at_ i hi
 have c:=f
 obtain ⟨⟨x,y,q,x',y',q',e,-⟩,-⟩:=f
 have e:=congrArg Array.toList (Value.agg.inj e)
 dsimp only at e
 subst e
 refine ⟨?_,x,y,q,x',y',q',g,d,b 0 _ rfl,b 1 _ rfl,b 2 _ rfl,b 3 _ rfl,b 4 _ rfl,b 5 _ rfl,c⟩
 cases p with
 | none=>cases d
 | some a=>rfl
def ck (V:View)(v:Value)(l:L3):Prop:=RL V v l.1 l.2.1 l.2.2
theorem ck.le {V V':View}{v:Value}{l:L3}(h:ck V v l)(e:V.Le V'):ck V' v l:=RL.le h e
theorem cI {V:View}{v:Value}{l:L3}(h:ck V v l):∃(b1:Bool)(p1:OA)(n1 c1:Nat)(b2:Bool)(p2:OA)(n2 c2:Nat)(b3:Bool)(p3:OA)(n3 c3:Nat),v=.agg #[.bool b1,.slice p1 n1 c1,.bool b2,.slice p2 n2 c2,.bool b3,.slice p3 n3 c3]:=by
 obtain ⟨_,_,_,_,_,_,_,_,_,e,-⟩:=h;exact ⟨_,_,_,_,_,_,_,_,_,_,_,_,e⟩
theorem NX {V:View}{xs:List Value}{l:L3}(h:ck V (.agg (List.toArray xs)) l):∀v∈xs,v.oneCell'=true:=by
 obtain ⟨_,_,_,_,_,_,_,_,_,_,_,_,e⟩:=cI h
 have e:=congrArg Array.toList (Value.agg.inj e)
 dsimp only at e
 subst e
 intro v hm
 simp only [List.mem_cons,List.not_mem_nil,or_false] at hm
 rcases hm with rfl|rfl|rfl|rfl|rfl|rfl<;>rfl
theorem Lm {b:Bool}{p:OA}{n c:Nat}{b':Bool}{p':OA}{n' c':Nat}{b'':Bool}{p'':OA}{n'' c'':Nat}:∀v∈([.bool b,.slice p n c,.bool b',.slice p' n' c',.bool b'',.slice p'' n'' c'']:List Value),v.oneCell'=true:=by
 intro v hm
 simp only [List.mem_cons,List.not_mem_nil,or_false] at hm
 rcases hm with rfl|rfl|rfl|rfl|rfl|rfl<;>rfl
theorem Nv {V:View}{p:OA}{n:Nat}{al:List L3}(h:cB 9 Bq V p n al){i:Nat}(hi:i<al.length) :
  p.isSome=true/\∃(x1 x2:Int)(q1:OA)(y1 y2:Int)(q2:OA)(z1 z2:Int)(q3:OA)(a:Addr),ag p (i*9)=some a/\V.at (a.add 0) (.int .i64 x1)/\V.at (a.add 1) (.int .i64 x2)/\V.at (a.add 2) (.pointer q1)/\V.at (a.add 3) (.int .i64 y1)/\V.at (a.add 4) (.int .i64 y2)/\V.at (a.add 5) (.pointer q2)/\V.at (a.add 6) (.int .i64 z1)/\V.at (a.add 7) (.int .i64 z2)/\V.at (a.add 8) (.pointer q3) /\
   Bq V (.agg #[.int .i64 x1,.int .i64 x2,.pointer q1,.int .i64 y1,.int .i64 y2,.pointer q2,.int .i64 z1,.int .i64 z2,.pointer q3]) al[i]:=by
 obtain ⟨g,d,xs,j,f,b⟩:=h.at_ i hi
 have c:=f
 obtain ⟨_,_,_,_,_,_,_,_,_,e⟩:=f.shape
 have e:=congrArg Array.toList (Value.agg.inj e)
 dsimp only at e
 subst e
 refine ⟨?_,_,_,_,_,_,_,_,_,_,g,d,b 0 _ rfl,b 1 _ rfl,b 2 _ rfl,b 3 _ rfl,b 4 _ rfl,b 5 _ rfl,b 6 _ rfl,b 7 _ rfl,b 8 _ rfl,c⟩
 cases p with
 | none=>cases d
 | some a=>rfl
theorem Tn {x1 x2:Int}{q1:OA}{y1 y2:Int}{q2:OA}{z1 z2:Int}{q3:OA}:∀v∈([.int .i64 x1,.int .i64 x2,.pointer q1,.int .i64 y1,.int .i64 y2,.pointer q2,.int .i64 z1,.int .i64 z2,.pointer q3]:List Value),v.oneCell'=true:=by
 intro v hm
 simp only [List.mem_cons,List.not_mem_nil,or_false] at hm
 rcases hm with rfl|rfl|rfl|rfl|rfl|rfl|rfl|rfl|rfl<;>rfl
theorem Jl {V:View}{v:Value}{l:L3}(h:rH V v l):∃(b1:Bool)(p1:OA)(n1 c1:Nat)(b2:Bool)(p2:OA)(n2 c2:Nat)(b3:Bool)(p3:OA)(n3 c3:Nat),v=.agg #[.bool b1,.slice p1 n1 c1,.bool b2,.slice p2 n2 c2,.bool b3,.slice p3 n3 c3]:=by
 rcases h with h|⟨-,b1,p,n,c,xs,b2,q,m,a,d,b3,s,i,j,e,b,-⟩
 ·exact cI h
 ·exact ⟨b1,p,n,c,b2,q,m,a,b3,s,i,j,b⟩
theorem Nw {V:View}{p:OA}{n:Nat}{al:List L3}(h:cB 6 rH V p n al){i:Nat}(hi:i<al.length) :
  p.isSome=true/\∃(b1:Bool)(p1:OA)(n1 c1:Nat)(b2:Bool)(p2:OA)(n2 c2:Nat)(b3:Bool)(p3:OA)(n3 c3:Nat)(a:Addr),ag p (i*6)=some a/\V.at (a.add 0) (.bool b1)/\V.at (a.add 1) (.slice p1 n1 c1)/\V.at (a.add 2) (.bool b2)/\V.at (a.add 3) (.slice p2 n2 c2)/\V.at (a.add 4) (.bool b3)/\V.at (a.add 5) (.slice p3 n3 c3) /\
   rH V (.agg #[.bool b1,.slice p1 n1 c1,.bool b2,.slice p2 n2 c2,.bool b3,.slice p3 n3 c3]) al[i]:=by
 obtain ⟨g,d,xs,j,f,b⟩:=h.at_ i hi
 have c:=f
 obtain ⟨_,_,_,_,_,_,_,_,_,_,_,_,e⟩:=Jl f
 have e:=congrArg Array.toList (Value.agg.inj e)
 dsimp only at e
 subst e
 refine ⟨?_,_,_,_,_,_,_,_,_,_,_,_,_,g,d,b 0 _ rfl,b 1 _ rfl,b 2 _ rfl,b 3 _ rfl,b 4 _ rfl,b 5 _ rfl,c⟩
 cases p with
 | none=>cases d
 | some a=>rfl
def A7 (ls:List L3):Bool:=decide (ls.length<=1024)&&ls.all dH
theorem Is {V:View}{p:OA}{n c:Nat}{ls:List L3}(h:cB 6 rH V p n ls)(hb:∀l∈ls,Bd l) :
  ab prog 65 #[.agg #[.slice p n c]] V fun r V'=>∃q m e,r=.tuple #[.slice q m e,.bool (A7 ls)]/\(A7 ls=true->cB 9 Bq V' q m ls):=by
 obtain rfl:=h.len
 refine xH p _ c V _ ⟨fun o S T=>?_,fun o=>⟨fun z V'=>∃i:Nat,z.2.2.2=(i:Int)/\i<=ls.length/\GR 9 Bq V' z.1 z.2.1 z.2.2.1 (ls.take i)/\(ls.take i).all dH=true,fun z=>ls.length-z.2.2.2.toNat,⟨(0,0,[],0),by and_intros<;>rfl,0,rfl,Nat.zero_le _,GR.nil,rfl⟩,?_⟩⟩
 ·have o:¬ls.length<=1024:=by have:=of_decide_eq_true o;omega
  have e:A7 ls=false:=by unfold A7;rw [decide_eq_false o];rfl
  rw [e]
  exact ⟨_,_,_,rfl,fun h=>by cases h⟩
 have hle:ls.length<=1024:=by have:=of_decide_eq_false o;omega
 have y:A7 ls=ls.all dH:=by unfold A7;rw [decide_eq_true hle];rfl
 rintro ⟨E,U,W,X⟩ V2 A ⟨i,B,Y,b,d⟩
 dsimp only at B b
 subst B
 have F:=b.len
 rw [List.length_take] at F
 refine ⟨rfl,fun f=>?_,fun f Z G bk s=>?_⟩
 ·have f:(i:Int)<ls.length:=of_decide_eq_true f
  have k:i<ls.length:=by omega
  have w:i64.wrap ((i:Int)+1)=((i+1:Nat):Int):=by rw [ay (by omega)];rfl
  dsimp only
  rw [Int.toNat_natCast,w]
  obtain ⟨is,b1,p1,n1,c1,b2,p2,n2,c2,b3,p3,n3,c3,a,t,H,I,J,K,L,M,u⟩:=Nw (h.le A fun _ _ g=>rH.le g A) k
  have C:=hb _ (List.getElem_mem k)
  refine ⟨is,⟨by omega,by omega⟩,_,_,_,_,_,_,_,_,_,_,_,_,a,t,H,I,J,K,L,M,fun V3 D=>(BH (u.le D) C).mono ?_⟩
  rintro r N O ⟨w4,rfl,⟨_,_,_,_,_,_,_,_,_,rfl⟩,v⟩
  have x:(ls.take (i+1)).all dH=dH ls[i]:=by rw [List.take_add_one,List.getElem?_eq_getElem k,List.all_append,d];simp
  refine ⟨_,_,_,_,_,_,_,_,_,_,rfl,fun j V5 l5=>?_,fun j=>⟨by omega,b.le,b.cap,rfl,Tn,fun sp P Q R=>⟨(E+1,P,_,((i+1:Nat):Int)),by dsimp only;omega,by and_intros<;>rfl,i+1,rfl,k,?_,?_⟩⟩⟩
  ·have j:dH ls[i]=false:=by simpa using j
   have e:ls.all dH=false:=by
    rw [List.all_eq_false]
    exact ⟨_,List.getElem_mem k,by rw [j];exact Bool.false_ne_true⟩
   rw [y,e]
   exact ⟨_,_,_,rfl,fun h=>by cases h⟩
  ·have j:dH ls[i]=true:=by simpa using j
   dsimp only
   rw [List.take_add_one,List.getElem?_eq_getElem k]
   exact (b.mono (V':=N) fun _ _ g=>Bq.le g (D.trans O)).snoc rfl ⟨v j,C⟩ (by decide) Q R
  ·rw [x];simpa using j
 ·have f:¬(i:Int)<ls.length:=of_decide_eq_false f
  obtain rfl:i=ls.length:=by omega
  rw [List.take_length] at b d
  rw [y,d]
  obtain rfl:=b.len
  exact ⟨_,_,_,rfl,fun _=>cB.eZ s (b.row.le fun _ _ g=>Bq.le g G) (by decide) b.le⟩
theorem D4 (x:Sd):∀r:List Sd,(nA x r).length=r.length+1
 | []=>rfl
 | s::r=>by
  unfold nA
  split
  ·rw [List.length_cons,D4 x r,List.length_cons]
  ·rfl
theorem AB {c c':List Sd}{l:L3}(e:gU c l=some c'):c'.length<=c.length+1:=by
 unfold gU at e
 split at e
 ·cases e
  rw [D4]
  have:=vP c l
  omega
 ·split at e
  ·cases e;omega
  ·cases e
theorem DD (l:L3)(r M:List L3)(c:List Sd):bK (l::r) M c=match gU c l with|some c'=>bK r (l::M) c'|none=>none:=rfl
theorem BG {V:View}{p:OA}{n c:Nat}{ls:List L3}(h:cB 9 Bq V p n ls)(ho:∀l∈ls,dH l=true)(hn:ls.length<=2000) :
  ab prog 66 #[.slice p n c] V fun r V'=>∃q m e,r=.tuple #[.slice q m e,.bool (bK ls [] []).isSome]/\(bK ls [] []=none->r=.tuple #[.slice none 0 0,.bool false])/\(∀c',bK ls [] []=some c'->cB 17 gW V' q m c'/\m<=e):=by
 obtain rfl:=h.len
 refine CI p _ c V _ ⟨fun z V'=>∃(i:Nat)(M:List L3)(cs:List Sd),z.2.2.2.2=(i:Int)/\i<=ls.length/\z.2.2.2.1=true/\bK ls [] []=bK (ls.drop i) M cs/\gV M cs/\(∀m∈M,dH m=true)/\cs.length<=i/\cB 17 gW V' z.1 z.2.1 cs/\z.2.1<=z.2.2.1,fun z=>ls.length-z.2.2.2.2.toNat,
  ⟨(none,0,0,true,0),by and_intros<;>rfl,0,[],[],rfl,Nat.zero_le _,rfl,rfl,gV.nil,(fun m hm=>by cases hm),Nat.le_refl _,cB.nil,Nat.le_refl _⟩,?_⟩
 rintro ⟨G,H,I,W,X⟩ Y y ⟨i,M,cs,A,Z,B,b,C,D,J,u,d⟩
 dsimp only at A B u d
 subst A B
 refine ⟨rfl,fun f=>?_,fun f=>⟨(fun j=>by cases j),fun _ V7 E=>?_⟩⟩
 ·have f:(i:Int)<ls.length:=of_decide_eq_true f
  have t:i<ls.length:=by omega
  have w:i64.wrap ((i:Int)+1)=((i+1:Nat):Int):=by rw [ay (by omega)];rfl
  dsimp only
  rw [Int.toNat_natCast,w]
  obtain ⟨is,x1,x2,q1,y1,y2,q2,z1,z2,q3,a,v,K,L,N,O,P,Q,R,S,T,k⟩:=Nv (h.le y fun _ _ g=>Bq.le g y) t
  have ok:=ho _ (List.getElem_mem t)
  have U:ls.drop i=ls[i]::ls.drop (i+1):=List.drop_eq_getElem_cons t
  rw [U,DD] at b
  refine ⟨is,⟨by omega,by omega⟩,_,_,_,_,_,_,_,_,_,a,v,K,L,N,O,P,Q,R,S,T,fun V2 x=>(Dp (u.le x fun _ _ g=>gW.le g x) (k.le x).1 k.2 (by omega) C.rM).mono ?_⟩
  rintro r V3 l3 ⟨q,m,e,rfl,F⟩
  refine ⟨_,_,_,_,rfl,fun j=>⟨fun _ V4 l4=>?_,fun o=>by rw [j] at o;cases o⟩,fun j=>?_⟩
  ·have j:gU cs ls[i]=none:=by simpa using j
   rw [j] at b
   have b:bK ls [] []=none:=b
   rw [b]
   exact ⟨none,0,0,rfl,fun _=>rfl,fun c' e=>by cases e⟩
  ·have j:(gU cs ls[i]).isSome=true:=by simpa using j
   obtain ⟨c',s⟩:=Option.isSome_iff_exists.1 j
   rw [s] at b
   have b:bK ls [] []=bK (ls.drop (i+1)) (ls[i]::M) c':=b
   refine ⟨(q,m,e,(gU cs ls[i]).isSome,((i+1:Nat):Int)),by dsimp only;omega,by and_intros<;>rfl,i+1,ls[i]::M,c',rfl,t,j,b,(Hz C D ok).1 c' s,List.forall_mem_cons.2 ⟨ok,D⟩,?_,(F c' s).1,(F c' s).2 d⟩
   have:=AB s
   omega
 ·have f:¬(i:Int)<ls.length:=of_decide_eq_false f
  obtain rfl:i=ls.length:=by omega
  rw [List.drop_length] at b
  have b:bK ls [] []=some cs:=b
  rw [b]
  refine ⟨G,H,I,rfl,(fun h=>by cases h),fun c' e=>?_⟩
  cases e
  exact ⟨u.le E fun _ _ g=>gW.le g E,d⟩
theorem FH {V:View}{p:OA}{n c:Nat}{cs:List Sd}(h:cB 17 gW V p n cs)(hn:cs.length<=100000) :
  ab prog 70 #[.slice p n c] V fun r V'=>∃q m e,r=.agg #[.slice q m e]/\cB 6 ck V' q m (cs.map Prod.fst)/\m<=e:=by
 obtain rfl:=h.len
 refine uj p _ c V _ ⟨fun z V'=>∃j:Nat,z.1=(j:Int)/\j<=cs.length/\GR 6 ck V' z.2.1 z.2.2.1 z.2.2.2 ((cs.map Prod.fst).take j),fun z=>cs.length-z.1.toNat,⟨(0,0,0,[]),by and_intros<;>rfl,0,rfl,Nat.zero_le _,GR.nil⟩,?_⟩
 rintro ⟨z1,D,z3,vs⟩ V1 v ⟨j,x,AU,d⟩
 dsimp only at x d
 subst x
 have E:=d.len
 rw [List.length_take,List.length_map] at E
 refine ⟨rfl,fun b=>?_,fun b V4 F bk G=>?_⟩
 ·have b:(j:Int)<cs.length:=of_decide_eq_true b
  have f:j<cs.length:=by omega
  have w:i64.wrap ((j:Int)+1)=((j+1:Nat):Int):=by rw [ay (by omega)];rfl
  dsimp only
  rw [Int.toNat_natCast,w]
  obtain ⟨H,a1,a2,a3,a4,a5,a6,a7,a8,a9,b1,b2,b3,b4,b5,b6,a,I,J,K,L,M,N,O,P,Q,R,S,i,k,l,o,s,t,u,y⟩:=ja (h.le v fun _ _ g=>gW.le g v) f
  obtain ⟨T,ri,-,-⟩:=y.both
  obtain ⟨s1,s2,s3⟩:=y.2.1.sz
  refine ⟨H,⟨by omega,by omega⟩,_,_,_,_,_,_,_,_,_,_,_,_,_,_,_,_,_,a,I,J,K,L,M,N,O,P,Q,R,S,i,k,l,o,s,t,u,fun V2 A=>(Iu (T.le A) s1 s2 s3 (by omega)).mono ?_⟩
  rintro r B U W
  have C:ck B r cs[j].1:=yv.api W
  obtain ⟨_,_,_,_,_,_,_,_,_,_,_,_,rfl⟩:=cI C
  refine ⟨_,_,_,_,_,_,_,_,_,_,_,_,rfl,by omega,d.le,d.cap,rfl,Lm,fun sp X Y Z=>⟨(((j+1:Nat):Int),D+1,X,_),by dsimp only;omega,by and_intros<;>rfl,j+1,rfl,f,?_⟩⟩
  dsimp only
  rw [List.take_add_one,List.getElem?_map,List.getElem?_eq_getElem f]
  exact (d.mono (V':=B) fun _ _ g=>ck.le g (A.trans U)).snoc rfl C (by decide) Y Z
 ·have b:¬(j:Int)<cs.length:=of_decide_eq_false b
  obtain rfl:j=cs.length:=by omega
  rw [List.take_of_length_le (by rw [List.length_map];exact Nat.le_refl _)] at d
  obtain rfl:=d.len
  exact ⟨_,_,_,rfl,cB.eZ G (d.row.le fun _ _ g=>ck.le g F) (by decide) d.le,d.le⟩
def oG (c:List Sd):Bool:=decide (c≠[])&&c.all fun s=>!s.2.a&&!s.2.b
theorem nd {V:View}{p:OA}{n c:Nat}{cs:List Sd}(h:cB 17 gW V p n cs)(hn:cs.length<=100000) :
  ab prog 81 #[.slice p n c] V fun r V'=>r=.bool (oG cs):=by
 obtain rfl:=h.len
 refine oL p _ c V _ ⟨fun z V'=>∃j:Nat,z=(j:Int)/\j<=cs.length/\((cs.take j).all fun s=>!s.2.a&&!s.2.b)=true,fun z=>cs.length-z.toNat,⟨0,by and_intros<;>rfl,0,rfl,Nat.zero_le _,rfl⟩,?_⟩
 rintro M N x ⟨j,rfl,O,d⟩
 refine ⟨rfl,fun e=>?_,fun e P Q=>?_⟩
 ·have e:(j:Int)<cs.length:=of_decide_eq_true e
  have f:j<cs.length:=by omega
  have w:i64.wrap ((j:Int)+1)=((j+1:Nat):Int):=by rw [ay (by omega)];rfl
  rw [Int.toNat_natCast,w]
  obtain ⟨y,R,S,T,U,W,X,Y,Z,a9,b1,b2,b3,b4,b5,b6,a,A,B,C,D,E,F,G,H,I,J,K,i,k,l,m,o,q,t,hr⟩:=ja (h.le x fun _ _ g=>gW.le g x) f
  have bad:(cs[j].2.a=true\/cs[j].2.b=true)->oG cs=false:=fun L=>by
   unfold oG
   rw [Bool.and_eq_false_iff,List.all_eq_false]
   refine .inr ⟨_,List.getElem_mem f,?_⟩
   rcases L with h|h<;>simp [h]
  refine ⟨y,⟨by omega,by omega⟩,_,_,_,_,_,_,_,_,_,_,_,_,_,_,_,_,_,a,A,B,C,D,E,F,G,H,I,J,K,i,k,l,m,o,q,t,fun u V2 l2=>by rw [bad (.inl u)],fun u=>⟨fun v V3 l3=>by rw [bad (.inr v)],fun v=>⟨((j+1:Nat):Int),by dsimp only;omega,by and_intros<;>rfl,j+1,rfl,f,?_⟩⟩⟩
  rw [List.take_add_one,List.getElem?_eq_getElem f,List.all_append,d]
  simp [u,v]
 ·have e:¬(j:Int)<cs.length:=of_decide_eq_false e
  obtain rfl:j=cs.length:=by omega
  rw [List.take_length] at d
  unfold oG
  rw [d,Bool.and_true]
  congr 1
  cases cs with
  | nil=>rfl
  | cons s r=>simp
def uG (S:List L3)(i:Nat):Option ai.V2:=if 0<ai.cr (ai.au (S.getD i (0,0,0))) (ai.au (S.getD ((i+1)%S.length) (0,0,0))) then some (Ed (S.getD i (0,0,0)) (S.getD ((i+1)%S.length) (0,0,0)),Ee (S.getD i (0,0,0)) (S.getD ((i+1)%S.length) (0,0,0))) else none
theorem C6 (S:List L3):kM S=(List.range S.length).filterMap (uG S):=rfl
theorem rE (S:List L3)(i:Nat):(List.range (i+1)).filterMap (uG S)=(List.range i).filterMap (uG S)++(uG S i).toList:=by
 rw [List.range_succ,List.filterMap_append]
 congr 1
theorem va (S:List L3):(kM S).length<=S.length:=by
 have:=List.length_filterMap_le (uG S) (List.range S.length)
 rw [List.length_range] at this
 exact this
theorem dP {α:Type}{l:List α}{i:Nat}{d:α}(h:i<l.length):l.getD i d=l[i]:=by rw [List.getD_eq_getElem?_getD,List.getElem?_eq_getElem h];rfl
theorem qj (l m:L3):ai.cr (ai.au l) (ai.au m)=aP l m:=by unfold ai.cr ai.au aP;grind
theorem mL {V:View}{p:OA}{n c:Nat}{cs:List Sd}(h:cB 17 gW V p n cs)(hn:cs.length<=100000) :
  ab prog 79 #[.slice p n c] V fun r V'=>∃q m e,r=.slice q m e/\cB 6 (Fy 20000) V' q m (kM (cs.map Prod.fst)):=by
 obtain rfl:=h.len
 have o:(cs.map Prod.fst).length=cs.length:=List.length_map ..
 refine nY p _ c V _ ⟨fun z V'=>∃j:Nat,z.2.2.2=(j:Int)/\j<=cs.length/\z.1<=j/\GR 6 (Fy 20000) V' z.1 z.2.1 z.2.2.1 ((List.range j).filterMap (uG (cs.map Prod.fst))),fun z=>cs.length-z.2.2.2.toNat,⟨(0,0,[],0),by and_intros<;>first|rfl|trivial,0,rfl,Nat.zero_le _,Nat.le_refl _,GR.nil⟩,?_⟩
 rintro ⟨X,z2,vs,z4⟩ V1 u ⟨j,Y,AU,Rj,f⟩
 dsimp only at Y f Rj
 subst Y
 refine ⟨rfl,fun d=>?_,fun d lL bY bk hb=>?_⟩
 ·have d:(j:Int)<cs.length:=of_decide_eq_true d
  have x:j<cs.length:=by omega
  have w:i64.wrap ((j:Int)+1)=((j+1:Nat):Int):=by rw [ay (by omega)];rfl
  have hm:(((j+1:Nat):Int)).tmod (cs.length:Int)=(((j+1)%cs.length:Nat):Int):=by rw [Int.ofNat_tmod]
  have hk:(j+1)%cs.length<cs.length:=Nat.mod_lt _ (by omega)
  dsimp only
  rw [w,hm]
  simp only [Int.toNat_natCast]
  obtain ⟨Z,a1,a2,a3,a4,a5,a6,a7,a8,a9,b1,b2,b3,b4,b5,b6,a,ha,k0,k1,k2,k3,k4,k5,k6,k7,k8,k9,y,A,B,C,D,E,F,hr⟩:=ja (h.le u fun _ _ g=>gW.le g u) x
  obtain ⟨rl,-,-,-⟩:=hr.both
  obtain ⟨-,c1,c2,c3,c4,c5,c6,c7,c8,c9,d1,d2,d3,d4,d5,d6,aa,G,m0,m1,m2,m3,m4,m5,m6,m7,m8,m9,H,I,J,K,L,M,N,s⟩:=ja (h.le u fun _ _ g=>gW.le g u) hk
  obtain ⟨t,-,-,-⟩:=s.both
  have sl:=hr.2.1
  have b:=s.2.1
  have ev:uG (cs.map Prod.fst) j=if 0<aP cs[j].1 cs[(j+1)%cs.length].1 then some (Ed cs[j].1 cs[(j+1)%cs.length].1,Ee cs[j].1 cs[(j+1)%cs.length].1) else none:=by
   unfold uG
   rw [o,dP (by omega:j<(cs.map Prod.fst).length),dP (by omega:(j+1)%cs.length<(cs.map Prod.fst).length),List.getElem_map,List.getElem_map,qj]
  generalize cs[j]=S at *
  generalize cs[(j+1)%cs.length]=T at *
  refine ⟨Z,⟨by omega,by omega⟩,_,_,_,_,_,_,_,_,_,_,_,_,_,_,_,_,_,a,ha,k0,k1,k2,k3,k4,k5,k6,k7,k8,k9,y,A,B,C,D,E,F,by omega,Z,⟨by omega,by omega⟩,_,_,_,_,_,_,_,_,_,_,_,_,_,_,_,_,_,aa,G,m0,m1,m2,m3,m4,m5,m6,m7,m8,m9,H,I,J,K,L,M,N,fun V2 O=>(HL (rl.le O) sl).mono ?_⟩
  rintro r V3 l3 g1
  have P:=g1
  obtain ⟨_,_,_,_,_,_,rfl,-,-⟩:=g1
  refine ⟨_,_,_,_,_,_,rfl,fun V4 Q=>(HL (t.le (O.trans (l3.trans Q))) b).mono ?_⟩
  rintro r V5 l5 g2
  have R:=g2
  obtain ⟨_,_,_,_,_,_,rfl,-,-⟩:=g2
  refine ⟨_,_,_,_,_,_,rfl,fun V6 U=>(gJ (P.le (Q.trans (l5.trans U))) (R.le U) (eo sl).1 (eo sl).2 (eo b).1 (eo b).2 (by omega)).mono ?_⟩
  rintro r V7 l7 g3
  have iR:RR V7 r (aP S.1 T.1):=by rw [←qj];exact g3
  obtain ⟨_,_,_,rfl⟩:=iR.shape
  refine ⟨_,_,_,rfl,fun V8 l8=>(eF (iR.le l8) (k:=5000) ((qU sl.fa b.fa).mono (by omega)) (by omega)).mono ?_⟩
  rintro r V9 l9 rfl
  have v:V1.Le V9:=O.trans (l3.trans (Q.trans (l5.trans (U.trans (l7.trans (l8.trans l9))))))
  refine ⟨_,rfl,fun i iI l=>(It (rl.le (v.trans l)) (t.le (v.trans l)) sl.fa b.fa (by omega)).mono ?_,fun i=>⟨(X,z2,vs,((j+1:Nat):Int)),by dsimp only;omega,by and_intros<;>first|rfl|trivial,j+1,rfl,x,by dsimp only;omega,?_⟩⟩
  ·have i:0<aP S.1 T.1:=ai.mP.1 (of_decide_eq_true i)
   rintro r ie bA ⟨a0,rfl,⟨_,_,_,_,_,_,rfl⟩,W⟩
   have gm:=W (by grind)
   obtain ⟨sx,sy⟩:=O7 sl.fa b.fa
   refine ⟨_,_,_,_,_,_,_,rfl,by omega,f.le,f.cap,rfl,Tk,fun sp c' h1 h2=>⟨(X+1,c',_,((j+1:Nat):Int)),by dsimp only;omega,by and_intros<;>first|rfl|trivial,j+1,rfl,x,by dsimp only;omega,?_⟩⟩
   dsimp only
   rw [rE,ev,if_pos i]
   exact (f.mono (V':=ie) fun _ _ g=>Fy.le g (v.trans (l.trans bA))).snoc (a:=(Ed S.1 T.1,Ee S.1 T.1)) rfl ⟨gm,sx.mono (by omega),sy.mono (by omega)⟩ (by decide) h1 h2
  ·have i:¬0<aP S.1 T.1:=fun h=>of_decide_eq_false i (ai.mP.2 h)
   dsimp only
   rw [rE,ev,if_neg i,Option.toList_none,List.append_nil]
   exact f.mono fun _ _ g=>Fy.le g v
 ·have d:¬(j:Int)<cs.length:=of_decide_eq_false d
  obtain rfl:j=cs.length:=by omega
  rw [←o,←C6] at f
  obtain rfl:=f.len
  exact ⟨_,_,_,rfl,cB.eZ hb (f.row.le fun _ _ g=>Fy.le g bY) (by decide) f.le⟩
def QM (l:List ai.V2)(k:Nat):Rat:=((List.range k).map fun i=>ai.cr (l.getD i (0,0)) (l.getD ((i+1)%l.length) (0,0))).sum
theorem qZ (l:List ai.V2)(k:Nat):QM l (k+1)=QM l k+ai.cr (l.getD k (0,0)) (l.getD ((k+1)%l.length) (0,0)):=by
 unfold QM
 rw [List.range_succ,List.map_append,List.sum_append]
 simp [Rat.add_zero]
theorem FL {V:View}{p:OA}{n c:Nat}{l:List ai.V2}(h:cB 6 (Fy 20000) V p n l)(hn:l.length<=100000) :
  ab prog 139 #[.slice p n c] V fun r V'=>RR V' r (tw l*((2:Int):Rat)⁻¹)/\Sz (100000*l.length+10) (tw l*((2:Int):Rat)⁻¹):=by
 obtain rfl:=h.len
 have step:∀k,k<=l.length->(∀i,i<l.length->Sz 20000 (l.getD i (0,0)).1/\Sz 20000 (l.getD i (0,0)).2)->Sz (100000*k+4) (QM l k):=by
  intro k
  induction k with
  | zero=>exact fun _ _=>JI _ (by omega)
  | succ k ih=>
   intro B C
   rw [qZ]
   obtain ⟨s1,s2⟩:=C k (by omega)
   obtain ⟨s3,s4⟩:=C _ (Nat.mod_lt (k+1) (show l.length>0 by omega))
   exact ((ih (by omega) C).add ((s1.mul s4).sub (s2.mul s3))).mono (by omega)
 have f:∀i,i<l.length->Sz 20000 (l.getD i (0,0)).1/\Sz 20000 (l.getD i (0,0)).2:=fun i e=>by
  obtain ⟨-,_,_,_,_,_,_,_,-,-,-,-,-,-,-,g⟩:=qF h e
  rw [dP e]
  exact g.2
 refine E1 p _ c V _ ⟨fun z V'=>∃j:Nat,z.1=(j:Int)/\j<=l.length/\RR V' (.agg #[.int .i64 z.2.1,.int .i64 z.2.2.1,.pointer z.2.2.2]) (QM l j),fun z=>l.length-z.1.toNat,⟨(0,0,0,none),by and_intros<;>first|rfl|trivial,0,rfl,Nat.zero_le _,RR.zero _⟩,?_⟩
 rintro ⟨z1,z2,z3,z4⟩ V1 s ⟨j,F,M,D⟩
 dsimp only at F D
 subst F
 refine ⟨rfl,fun d=>?_,fun d V6 N=>?_⟩
 ·have d:(j:Int)<l.length:=of_decide_eq_true d
  have e:j<l.length:=by omega
  have w:i64.wrap ((j:Int)+1)=((j+1:Nat):Int):=by rw [ay (by omega)];rfl
  have hm:(((j+1:Nat):Int)).tmod (l.length:Int)=(((j+1)%l.length:Nat):Int):=by rw [Int.ofNat_tmod]
  have B:(j+1)%l.length<l.length:=Nat.mod_lt _ (by omega)
  dsimp only
  rw [w,hm]
  simp only [Int.toNat_natCast]
  obtain ⟨G,x,y,q,x',y',q',a,O,P,Q,R,U,W,X,m⟩:=qF (h.le s fun _ _ g=>Fy.le g s) e
  obtain ⟨-,u,v,t,u',v',t',b,Y,Z,b1,b2,b3,b4,b5,o⟩:=qF (h.le s fun _ _ g=>Fy.le g s) B
  have H:=qZ l j
  rw [dP e,dP B] at H
  have A:=step j M f
  generalize l[j]=S at *
  generalize l[(j+1)%l.length]=T at *
  refine ⟨G,⟨by omega,by omega⟩,_,_,_,_,_,_,a,O,P,Q,R,U,W,X,by omega,G,⟨by omega,by omega⟩,_,_,_,_,_,_,b,Y,Z,b1,b2,b3,b4,b5,fun V2 E=>(gJ (m.1.le E) (o.1.le E) m.2.1 m.2.2 o.2.1 o.2.2 (by omega)).mono ?_⟩
  rintro r V3 l3 g3
  have I:RR V3 r (ai.cr S T):=g3
  obtain ⟨_,_,_,rfl⟩:=I.shape
  refine ⟨_,_,_,rfl,fun V4 J=>(jZ (D.le (E.trans (l3.trans J))) (I.le J) A ((m.2.1.mul o.2.2).sub (m.2.2.mul o.2.1)) (by omega)).mono ?_⟩
  rintro r V5 l5 K
  have C_:=K
  obtain ⟨_,_,_,rfl⟩:=K.shape
  exact ⟨_,_,_,rfl,(((j+1:Nat):Int),_,_,_),by dsimp only;omega,by and_intros<;>first|rfl|trivial,j+1,rfl,e,by rw [H];exact C_⟩
 ·have d:¬(j:Int)<l.length:=of_decide_eq_false d
  obtain rfl:j=l.length:=by omega
  have A:=step l.length (Nat.le_refl _) f
  refine (vA (D.le N) A (by omega)).mono ?_
  rintro r V7 l7 L
  have HH:=L
  obtain ⟨_,_,_,rfl⟩:=L.shape
  exact ⟨_,_,_,rfl,fun V8 l8=>⟨HH.le l8,(A.mul (cP qV)).mono (by omega)⟩⟩
theorem Dn {V:View}{p:OA}{n c:Nat}{cs:List Sd}(h:cB 17 gW V p n cs)(hn:cs.length<=100000) :
  ab prog 82 #[.slice p n c] V fun r V'=>RR V' r (tw (kM (cs.map Prod.fst))*((2:Int):Rat)⁻¹)/\Sz 10000000010 (tw (kM (cs.map Prod.fst))*((2:Int):Rat)⁻¹):=by
 refine sO p n c V _ fun k a=>(mL (h.le a fun _ _ g=>gW.le g a) hn).mono ?_
 rintro r V2 l ⟨q,m,e,rfl,g⟩
 have f:=va (cs.map Prod.fst)
 rw [List.length_map] at f
 refine ⟨_,_,_,rfl,fun o b=>(FL (g.le b fun _ _ g=>Fy.le g b) (by omega)).mono ?_⟩
 rintro r s t ⟨d,s4⟩
 have i:=d
 obtain ⟨_,_,_,rfl⟩:=d.shape
 exact ⟨_,_,_,rfl,fun u j=>⟨i.le j,s4.mono (by omega)⟩⟩
structure Er (V:View) (yi ye yu:Value):Prop where
 inv:Dd V 0 yi
 emp:Dd V 1 ye
 X9:Dd V 2 yu
 si:FA yi
 se:FA ye
 su:FA yu
theorem Er.le {V V':View}{yi ye yu:Value}(h:Er V yi ye yu)(l:V.Le V'):Er V' yi ye yu:=⟨h.inv.le l,h.emp.le l,h.X9.le l,h.si,h.se,h.su⟩
theorem oR {y:Value}(h:FA y):IsIface y/\bO y=false:=by obtain ⟨a,rfl⟩:=h;exact ⟨.inr ⟨_,_,rfl⟩,rfl⟩
theorem fL:IsIface .nilIface/\bO .nilIface=true:=⟨.inl rfl,rfl⟩
def Fs (ls:List L3)(bad Rg:Prop)(some_:List Sd->Prop):Prop:=(A7 ls=false/\bad)\/(A7 ls=true/\bK ls [] []=none/\Rg)\/(A7 ls=true/\∃c,bK ls [] []=some c/\some_ c)
theorem Fs.bad {ls:List L3}{p q:Prop}{s:List Sd->Prop}(h:Fs ls p q s)(e:A7 ls=false):p:=by
 rcases h with ⟨-,h⟩|⟨h,-⟩|⟨h,-⟩
 ·exact h
 ·rw [e] at h;cases h
 ·rw [e] at h;cases h
theorem Fs.Rg {ls:List L3}{p q:Prop}{s:List Sd->Prop}(h:Fs ls p q s)(e:A7 ls=true)(e':bK ls [] []=none):q:=by
 rcases h with ⟨h,-⟩|⟨-,-,h⟩|⟨-,c,h,-⟩
 ·rw [e] at h;cases h
 ·exact h
 ·rw [e'] at h;cases h
theorem Fs.some {ls:List L3}{p q:Prop}{s:List Sd->Prop}{c:List Sd}(h:Fs ls p q s)(e:A7 ls=true)(e':bK ls [] []=Option.some c):s c:=by
 rcases h with ⟨h,-⟩|⟨-,h,-⟩|⟨-,b,h,a⟩
 ·rw [e] at h;cases h
 ·rw [e'] at h;cases h
 ·rw [e'] at h;cases h;exact a
theorem Fs.imp {ls:List L3}{p q p' q':Prop}{s s':List Sd->Prop}(h:Fs ls p q s)(hp:p->p')(hq:q->q')(hs:∀c,bK ls [] []=Option.some c->s c->s' c):Fs ls p' q' s':=by
 rcases h with ⟨h,a⟩|⟨h,b,a⟩|⟨h,c,b,a⟩
 ·exact .inl ⟨h,hp a⟩
 ·exact .inr (.inl ⟨h,b,hq a⟩)
 ·exact .inr (.inr ⟨h,c,b,hs c b a⟩)
theorem uS {ls:List L3}(h:A7 ls=true):ls.length<=1024/\∀l∈ls,dH l=true:=by
 unfold A7 at h
 rw [Bool.and_eq_true,decide_eq_true_eq,List.all_eq_true] at h
 exact h
theorem Qo {ls:List L3}(h:ls.length<=1024)(h':∀l∈ls,dH l=true):A7 ls=true:=by
 unfold A7
 rw [decide_eq_true h,List.all_eq_true.2 h'];rfl
theorem rS:∀{ls M:List L3} {c c':List Sd},bK ls M c=some c'->c'.length<=c.length+ls.length
 | [],_,_,_,e=>by cases e;simp
 | l::r,M,c,c',e=>by
  unfold bK at e
  cases h:gU c l with
  | none=>rw [h] at e;cases e
  | some c1=>
   rw [h] at e
   have:=rS e
   have:=AB h
   rw [List.length_cons];omega
theorem FU {ls:List L3}{c:List Sd}(e:bK ls [] []=some c)(h:A7 ls=true):c.length<=100000:=by
 have:=rS e
 have:=(uS h).1
 rw [List.length_nil] at *
 omega
def RdC (V':View)(r:Value)(ls:List L3)(yi ye:Value):Prop:=Fs ls (r=.tuple #[.slice none 0 0,yi]) (r=.tuple #[.slice none 0 0,ye]) fun cs=>(∃q m e,r=.tuple #[.slice q m e,.nilIface]/\cB 17 gW V' q m cs/\m<=e)/\gV ls.reverse cs/\cs.length<=100000
theorem fw {V:View}{p:OA}{n c:Nat}{ls:List L3}(h:cB 6 rH V p n ls)(hb:∀l∈ls,Bd l){yi ye yu:Value}(E:Er V yi ye yu) :
  ab prog 69 #[.agg #[.slice p n c]] V fun r V'=>RdC V' r ls yi ye:=by
 refine xC p n c V _ fun w f=>(Is (h.le f fun _ _ g=>rH.le g f) hb).mono ?_
 rintro r V2 t ⟨q,m,e,rfl,g⟩
 have j:=f.trans t
 refine ⟨_,_,_,_,rfl,fun a=>⟨yi,⟨_,rfl,(E.le j).inv⟩,fun x y=>.inl ⟨by simpa using a,rfl⟩⟩,fun a z i=>?_⟩
 have a:A7 ls=true:=by simpa using a
 have u:=g a
 refine (BG (u.le i fun _ _ g=>Bq.le g i) (uS a).2 (by have:=(uS a).1;omega)).mono ?_
 rintro r A v ⟨B,C,D,rfl,F,k⟩
 refine ⟨_,_,_,_,rfl,fun b=>⟨ye,⟨_,rfl,(E.le (j.trans (i.trans v))).emp⟩,fun G H=>.inr (.inl ⟨a,by simpa using b,rfl⟩)⟩,fun b I o=>?_⟩
 have b:(bK ls [] []).isSome=true:=by simpa using b
 obtain ⟨cs,d⟩:=Option.isSome_iff_exists.1 b
 have s:=(vM gV.nil (fun m hm=>by cases hm) (uS a).2).1 cs d
 rw [List.append_nil] at s
 exact .inr (.inr ⟨a,cs,d,⟨_,_,_,rfl,(k cs d).1.le o fun _ _ g=>gW.le g o,(k cs d).2⟩,s,FU d a⟩)
theorem vC {V:View}{p:OA}{n c:Nat}{ls:List L3}(h:cB 6 rH V p n ls)(hb:∀l∈ls,Bd l){yi ye yu:Value}(E:Er V yi ye yu) :
  ab prog 18 #[.agg #[.slice p n c]] V fun r V'=>Fs ls (r=.tuple #[.agg #[.slice none 0 0],yi]) (r=.tuple #[.agg #[.slice none 0 0],ye]) fun cs=>∃q m e,r=.tuple #[.agg #[.slice q m e],.nilIface]/\cB 6 ck V' q m (cs.map Prod.fst)/\m<=e:=by
 refine ug p n c V _ fun u d=>(fw (h.le d fun _ _ g=>rH.le g d) hb (E.le d)).mono ?_
 rintro r V2 v (⟨b,rfl⟩|⟨b,f,rfl⟩|⟨b,cs,f,⟨q,m,e,rfl,k,-⟩,w,o⟩)
 ·obtain ⟨i1,i2⟩:=oR E.si
  exact ⟨_,_,_,_,rfl,i1,fun _ s t=>.inl ⟨b,rfl⟩,fun a=>by rw [i2] at a;cases a⟩
 ·obtain ⟨i1,i2⟩:=oR E.se
  exact ⟨_,_,_,_,rfl,i1,fun _ s t=>.inr (.inl ⟨b,f,rfl⟩),fun a=>by rw [i2] at a;cases a⟩
 ·refine ⟨_,_,_,_,rfl,fL.1,(fun a=>by cases a),fun _ x i=>(FH (k.le i fun _ _ g=>gW.le g i) o).mono ?_⟩
  rintro r y z ⟨A,B,C,rfl,g,hm⟩
  exact ⟨_,_,_,rfl,fun D j=>.inr (.inr ⟨b,cs,f,_,_,_,rfl,g.le j fun _ _ g=>ck.le g j,hm⟩)⟩
theorem kU {V:View}{p:OA}{n c:Nat}{ls:List L3}(h:cB 6 rH V p n ls)(hb:∀l∈ls,Bd l){yi ye yu:Value}(E:Er V yi ye yu) :
  ab prog 24 #[.agg #[.slice p n c]] V fun r V'=>Fs ls (r=.tuple #[.bool false,yi]) (r=.tuple #[.bool false,ye]) fun cs=>r=.tuple #[.bool (oG cs),.nilIface]:=by
 refine rm p n c V _ fun t d=>(fw (h.le d fun _ _ g=>rH.le g d) hb (E.le d)).mono ?_
 rintro r V2 u (⟨b,rfl⟩|⟨b,f,rfl⟩|⟨b,cs,f,⟨q,m,e,rfl,j,-⟩,v,k⟩)
 ·obtain ⟨i1,i2⟩:=oR E.si
  exact ⟨_,_,_,_,rfl,i1,(fun a=>by rw [i2] at a;cases a),fun _ o s=>.inl ⟨b,rfl⟩⟩
 ·obtain ⟨i1,i2⟩:=oR E.se
  exact ⟨_,_,_,_,rfl,i1,(fun a=>by rw [i2] at a;cases a),fun _ o s=>.inr (.inl ⟨b,f,rfl⟩)⟩
 ·refine ⟨_,_,_,_,rfl,fL.1,fun _ w i=>(nd (j.le i fun _ _ g=>gW.le g i) k).mono ?_,fun a=>by cases a⟩
  rintro r x y rfl
  exact ⟨_,rfl,fun z A=>.inr (.inr ⟨b,cs,f,rfl⟩)⟩
def gE (V:View)(v:Value)(c:Rat×Rat):Prop:=Hn V v c.1 c.2
theorem gE.le {V V':View}{v:Value}{c:Rat×Rat}(h:gE V v c)(l:V.Le V'):gE V' v c:=Hn.le h l
theorem OZ {b:Bool}{p:OA}{n c:Nat}{p':OA}{n' c':Nat}{d:Bool}{q:OA}{m e:Nat}{q':OA}{m' e':Nat}:∀v∈([.bool b,.slice p n c,.slice p' n' c',.bool d,.slice q m e,.slice q' m' e']:List Value),v.oneCell'=true:=by
 intro v hm
 simp only [List.mem_cons,List.not_mem_nil,or_false] at hm
 rcases hm with rfl|rfl|rfl|rfl|rfl|rfl<;>rfl
theorem j7 {V:View}{p:OA}{n c:Nat}{ls:List L3}(h:cB 6 rH V p n ls)(hb:∀l∈ls,Bd l){yi ye yu:Value}(E:Er V yi ye yu) :
  ab prog 23 #[.agg #[.slice p n c]] V fun r V'=>Fs ls (r=.tuple #[.slice none 0 0,yi]) (r=.tuple #[.slice none 0 0,ye]) fun cs=>∃q m e,r=.tuple #[.slice q m e,.nilIface]/\cB 6 gE V' q m (kM (cs.map Prod.fst))/\∀x∈kM (cs.map Prod.fst),Sz 20000 x.1/\Sz 20000 x.2:=by
 refine pK p n c V _ fun V1 s=>(fw (h.le s fun _ _ g=>rH.le g s) hb (E.le s)).mono ?_
 rintro r V2 l2 (⟨k,rfl⟩|⟨k,u,rfl⟩|⟨k,cs,u,⟨q,m,e,rfl,M,-⟩,hC,N⟩)
 ·obtain ⟨i1,i2⟩:=oR E.si
  exact ⟨_,_,_,_,rfl,i1,fun _ O P=>.inl ⟨k,rfl⟩,fun f=>by rw [i2] at f;cases f⟩
 ·obtain ⟨i1,i2⟩:=oR E.se
  exact ⟨_,_,_,_,rfl,i1,fun _ O P=>.inr (.inl ⟨k,u,rfl⟩),fun f=>by rw [i2] at f;cases f⟩
 ·refine ⟨_,_,_,_,rfl,fL.1,(fun f=>by cases f),fun _ V4 D=>(mL (M.le D fun _ _ g=>gW.le g D) N).mono ?_⟩
  rintro r V5 l5 ⟨q',m',e',rfl,g⟩
  have Q:=va (cs.map Prod.fst)
  rw [List.length_map] at Q
  have R:∀{r:Value} {V':View},(∃q m e,r=.tuple #[.slice q m e,.nilIface]/\cB 6 gE V' q m (kM (cs.map Prod.fst))/\∀x∈kM (cs.map Prod.fst),Sz 20000 x.1/\Sz 20000 x.2)->Fs ls (r=.tuple #[.slice none 0 0,yi]) (r=.tuple #[.slice none 0 0,ye]) fun cs=>∃q m e,r=.tuple #[.slice q m e,.nilIface]/\cB 6 gE V' q m (kM (cs.map Prod.fst))/\∀x∈kM (cs.map Prod.fst),Sz 20000 x.1/\Sz 20000 x.2:=fun h=>.inr (.inr ⟨k,cs,u,h⟩)
  generalize kM (cs.map Prod.fst)=A at *
  have v:∀x∈A,Sz 20000 x.1/\Sz 20000 x.2:=fun x S=>by
   obtain ⟨i,o,rfl⟩:=List.mem_iff_getElem.1 S
   obtain ⟨-,_,_,_,_,_,_,_,-,-,-,-,-,-,-,g⟩:=qF g o
   exact g.2
  obtain rfl:=g.len
  refine ⟨_,_,_,rfl,fun z V'=>∃j:Nat,z.2.2.2=(j:Int)/\j<=A.length/\GR 6 gE V' z.1 z.2.1 z.2.2.1 (A.take j),fun z=>A.length-z.2.2.2.toNat,⟨(0,0,[],0),by and_intros<;>rfl,0,rfl,Nat.zero_le _,GR.nil⟩,?_⟩
  rintro ⟨F,G,vs,z4⟩ V6 H ⟨j,I,AU,d⟩
  dsimp only at I d
  subst I
  have T:=d.len
  rw [List.length_take] at T
  refine ⟨rfl,fun b=>?_,fun b V9 U W B=>?_⟩
  ·have b:(j:Int)<A.length:=of_decide_eq_true b
   have o:j<A.length:=by omega
   have w:i64.wrap ((j:Int)+1)=((j+1:Nat):Int):=by rw [ay (by omega)];rfl
   dsimp only
   rw [Int.toNat_natCast,w]
   obtain ⟨X,x,y,t,x',y',t',a,Y,Z,a1,a2,a3,a4,a5,C⟩:=qF (g.le H fun _ _ g=>Fy.le g H) o
   refine ⟨X,⟨by omega,by omega⟩,_,_,_,_,_,_,a,Y,Z,a1,a2,a3,a4,a5,fun V7 J=>(qc (C.1.le J) C.2.1 C.2.2 (by omega)).mono ?_⟩
   rintro r K l8 L
   have g0:gE K r A[j]:=L
   obtain ⟨_,_,_,_,_,_,_,_,_,_,_,_,_,_,rfl,-⟩:=L
   refine ⟨_,_,_,_,_,_,_,_,_,_,_,_,_,_,rfl,by omega,d.le,d.cap,rfl,OZ,fun sp c' h1 h2=>⟨(F+1,c',_,((j+1:Nat):Int)),by dsimp only;omega,by and_intros<;>rfl,j+1,rfl,o,?_⟩⟩
   dsimp only
   rw [List.take_add_one,List.getElem?_eq_getElem o]
   exact (d.mono (V':=K) fun _ _ g=>gE.le g (J.trans l8)).snoc rfl g0 (by decide) h1 h2
  ·have b:¬(j:Int)<A.length:=of_decide_eq_false b
   obtain rfl:j=A.length:=by omega
   rw [List.take_length] at d
   have e1:=d.len
   refine R ⟨mA W G,F,G,rfl,?_,v⟩
   rw [e1]
   exact cB.eZ B (d.row.le fun _ _ g=>gE.le g U) (by decide) (by have:=d.le;omega)
theorem kx {V:View}{p:OA}{n c:Nat}{ls:List L3}(h:cB 6 rH V p n ls)(hb:∀l∈ls,Bd l){yi ye yu:Value}(E:Er V yi ye yu) :
  ab prog 25 #[.agg #[.slice p n c]] V fun r V'=>Fs ls (r=.tuple #[.agg #[.bool false,.slice none 0 0,.slice none 0 0],yi]) (r=.tuple #[.agg #[.bool false,.slice none 0 0,.slice none 0 0],ye])
   fun cs=>(oG cs=false->r=.tuple #[.agg #[.bool false,.slice none 0 0,.slice none 0 0],yu])/\(oG cs=true->∃w,r=.tuple #[w,.nilIface]/\RA V' w (tw (kM (cs.map Prod.fst))*((2:Int):Rat)⁻¹)/\Sz 10000000010 (tw (kM (cs.map Prod.fst))*((2:Int):Rat)⁻¹)):=by
 refine xB p n c V _ fun I d=>(fw (h.le d fun _ _ g=>rH.le g d) hb (E.le d)).mono ?_
 rintro r V2 x (⟨b,rfl⟩|⟨b,f,rfl⟩|⟨b,cs,f,⟨q,m,e,rfl,k,-⟩,J,o⟩)
 ·obtain ⟨i1,i2⟩:=oR E.si
  exact ⟨_,_,_,_,rfl,i1,fun _ y z=>.inl ⟨b,rfl⟩,fun a=>by rw [i2] at a;cases a⟩
 ·obtain ⟨i1,i2⟩:=oR E.se
  exact ⟨_,_,_,_,rfl,i1,fun _ y z=>.inr (.inl ⟨b,f,rfl⟩),fun a=>by rw [i2] at a;cases a⟩
 ·have A:=d.trans x
  refine ⟨_,_,_,_,rfl,fL.1,(fun a=>by cases a),fun _ K i=>(nd (k.le i fun _ _ g=>gW.le g i) o).mono ?_⟩
  rintro r L s rfl
  refine ⟨_,rfl,fun a=>⟨yu,⟨_,rfl,(E.le (A.trans (i.trans s))).X9⟩,fun M N=>.inr (.inr ⟨b,cs,f,fun _=>rfl,fun j=>by rw [j] at a;cases a⟩)⟩,fun a O B=>?_⟩
  have a:oG cs=true:=by simpa using a
  have t:=i.trans (s.trans B)
  refine (Dn (k.le t fun _ _ g=>gW.le g t) o).mono ?_
  rintro r P Q ⟨g,u⟩
  have C:=g
  obtain ⟨_,_,_,rfl⟩:=g.shape
  refine ⟨_,_,_,rfl,fun R D=>(BF (C.le D) u (by omega)).mono ?_⟩
  rintro r S F v
  have G:=v
  obtain ⟨_,_,_,_,_,_,_,rfl⟩:=v.shape
  exact ⟨_,_,_,_,_,_,_,rfl,fun T H=>.inr (.inr ⟨b,cs,f,(fun j=>by rw [a] at j;cases j),fun _=>⟨_,rfl,G.le H,u⟩⟩)⟩
theorem BE {V:View}{v:Value}{q:Rat}(h:RA V v q){k:Nat}(hs:Sz k q)(hk:k<=274877906944):ab prog 43 #[v] V fun r V'=>RQ V' r q:=by
 obtain ⟨b,xs,a,c,-,e,d⟩:=RE.raw (no:=false) ⟨(fun h=>nomatch h),fun _=>h⟩ (fun h=>nomatch h)
 obtain ⟨f,g⟩:=d k hs
 have e:Jj b xs a=q:=e
 rw [←e]
 exact IB c (by omega) (by omega)
theorem GP {V:View}{vs:List Value}{ls:List L3}(h:Row 6 ck V vs ls){i:Nat}(hi:i<ls.length):∃b1 p1 n1 c1 b2 p2 n2 c2 b3 p3 n3 c3,i*6+6<=vs.length/\(vs.drop (i*6)).take 6=[Value.bool b1,.slice p1 n1 c1,.bool b2,.slice p2 n2 c2,.bool b3,.slice p3 n3 c3] /\
  ck V (.agg #[.bool b1,.slice p1 n1 c1,.bool b2,.slice p2 n2 c2,.bool b3,.slice p3 n3 c3]) ls[i]:=by
 obtain ⟨xs,f,b,c⟩:=h.at_ i hi
 have g:=h.iM (by decide)
 have a:=b
 obtain ⟨_,_,_,_,_,_,_,_,_,_,_,_,e⟩:=cI b
 have e:=congrArg Array.toList (Value.agg.inj e)
 dsimp only at e
 subst e
 refine ⟨_,_,_,_,_,_,_,_,_,_,_,_,by omega,?_,a⟩
 apply List.ext_getElem?
 intro j
 rw [List.getElem?_take]
 split
 ·rename_i d
  rw [List.getElem?_drop]
  exact c j _ (List.getElem?_eq_getElem (by show j<6;omega))▸(List.getElem?_eq_getElem (by show j<6;omega)).symm
 ·rename_i d
  rw [List.getElem?_eq_none (by show 6<=j;omega)]
theorem BL {V:View}{p:OA}{n c:Nat}{ls:List L3}(h:cB 6 ck V p n ls)(hn:ls.length<=1000000)(hs:∀l∈ls,Bd l) :
  ab prog 71 #[.slice p n c] V fun r V'=>∃q m e,r=.slice q m e/\cB 6 ck V' q m ls:=by
 obtain rfl:=h.len
 refine zT p _ c V _ ⟨fun z V'=>∃j:Nat,z.2.2.2=(j:Int)/\j<=ls.length/\GR 6 ck V' z.1 z.2.1 z.2.2.1 (ls.take j),fun z=>ls.length-z.2.2.2.toNat,⟨(0,0,[],0),by and_intros<;>rfl,0,rfl,Nat.zero_le _,GR.nil⟩,?_⟩
 rintro ⟨y,I,J,K⟩ L k ⟨j,o,M,d⟩
 dsimp only at o d
 subst o
 have A:=d.len
 rw [List.length_take] at A
 refine ⟨rfl,fun b=>?_,fun b N B O C=>?_⟩
 ·have b:(j:Int)<ls.length:=of_decide_eq_true b
  have f:j<ls.length:=by omega
  obtain ⟨D,s,xs,-,t,a⟩:=(h.le k fun _ _ g=>ck.le g k).at_ j f
  have i:=t
  obtain ⟨_,_,_,_,_,_,_,_,_,_,_,_,ex⟩:=cI t
  have ex:=congrArg Array.toList (Value.agg.inj ex)
  dsimp only at ex
  subst ex
  have w:i64.wrap ((j:Int)+1)=((j+1:Nat):Int):=by rw [ay (by omega)];rfl
  dsimp only
  rw [Int.toNat_natCast,w]
  obtain ⟨d1,d2,d3⟩:=(hs _ (List.getElem_mem f)).ah
  refine ⟨kf s,⟨by omega,by omega⟩,_,_,_,_,_,_,_,_,_,_,_,_,D,s,a 0 _ rfl,a 1 _ rfl,a 2 _ rfl,a 3 _ rfl,a 4 _ rfl,a 5 _ rfl,fun V2 u=>(DA (i.le u) (by omega) (by omega) (by omega)).mono ?_⟩
  rintro r v E g
  have x:ck v r ls[j]:=g
  obtain ⟨_,_,_,_,_,_,_,_,_,_,_,_,rfl⟩:=cI x
  refine ⟨_,_,_,_,_,_,_,_,_,_,_,_,rfl,by omega,d.le,d.cap,rfl,Lm,fun sp F G H=>⟨(y+1,F,_,((j+1:Nat):Int)),by dsimp only;omega,by and_intros<;>rfl,j+1,rfl,f,?_⟩⟩
  dsimp only
  rw [List.take_add_one,List.getElem?_eq_getElem f]
  exact (d.mono (V':=v) fun _ _ g=>ck.le g (u.trans E)).snoc rfl x (by decide) G H
 ·have b:¬(j:Int)<ls.length:=of_decide_eq_false b
  obtain rfl:j=ls.length:=by omega
  rw [List.take_length] at d
  obtain rfl:=d.len
  exact ⟨_,_,_,rfl,cB.eZ C (d.row.le fun _ _ g=>ck.le g B) (by decide) d.le⟩
theorem vI {V:View}{p:OA}{n c:Nat}{q:OA}{m d:Nat}{A:List L3}(hA:cB 6 ck V p n A)(hB:cB 6 ck V q m A)(hn:A.length<=1000000)(hs:∀l∈A,Bd l) :
  ab prog 111 #[.slice p n c,.slice q m d] V fun r V'=>r=.bool true:=by
 obtain rfl:=hA.len
 obtain rfl:=hB.len
 refine uy p _ c q _ d V _ ⟨fun h=>by simp at h,fun _=>⟨fun z V'=>∃j:Nat,z=(j:Int)/\j<=A.length,fun z=>A.length-z.toNat,⟨0,by and_intros<;>rfl,0,rfl,Nat.zero_le _⟩,?_⟩⟩
 rintro z V2 k ⟨j,rfl,D⟩
 refine ⟨rfl,fun e=>?_,fun e E F=>rfl⟩
 have e:(j:Int)<A.length:=of_decide_eq_true e
 have o:j<A.length:=by omega
 obtain ⟨y,u,xs,-,v,b⟩:=(hA.le k fun _ _ g=>ck.le g k).at_ j o
 obtain ⟨B,f,G,-,i,a⟩:=(hB.le k fun _ _ g=>ck.le g k).at_ j o
 have t:=v
 have C:=i
 obtain ⟨_,_,_,_,_,_,_,_,_,_,_,_,ex⟩:=cI v
 obtain ⟨_,_,_,_,_,_,_,_,_,_,_,_,s⟩:=cI i
 have ex:=congrArg Array.toList (Value.agg.inj ex)
 have s:=congrArg Array.toList (Value.agg.inj s)
 dsimp only at ex s
 subst ex s
 have w:i64.wrap ((j:Int)+1)=((j+1:Nat):Int):=by rw [ay (by omega)];rfl
 rw [Int.toNat_natCast,w]
 obtain ⟨d1,d2,d3⟩:=(hs _ (List.getElem_mem o)).ah
 refine ⟨kf u,⟨by omega,by omega⟩,_,_,_,_,_,_,_,_,_,_,_,_,y,u,b 0 _ rfl,b 1 _ rfl,b 2 _ rfl,b 3 _ rfl,b 4 _ rfl,b 5 _ rfl,kf f,⟨by omega,by omega⟩,_,_,_,_,_,_,_,_,_,_,_,_,B,f,a 0 _ rfl,a 1 _ rfl,a 2 _ rfl,a 3 _ rfl,a 4 _ rfl,a 5 _ rfl,fun H x=>(yN (t.le x) (C.le x) (by omega) (by omega) (by omega)).mono ?_⟩
 rintro r I J rfl
 rw [decide_eq_true ⟨rfl,rfl,rfl⟩]
 exact ⟨_,rfl,(fun h=>nomatch h),fun _=>⟨((j+1:Nat):Int),by dsimp only;omega,by and_intros<;>rfl,j+1,rfl,o⟩⟩
end Go.Proofs.Tryz
