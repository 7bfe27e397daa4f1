/- Walks of chapter 5's people: contains, marriages, who is dead. -/
import Derived.Test.YtmaidggpbihlgaaGreatDoorJ9
import Derived.Test.YtmaidggpbihlgaaGreatDoorE4
import Derived.ChangeKeysEq
set_option linter.unusedSimpArgs false
set_option linter.unusedVariables false
namespace Go.Proofs.YtmaidggpbihlgaaGreatDoor
open Go.RowKit
attribute [local go_sem] World.cell?_alloc_mark ext_size ext_cell ext_frozen lt_add_r lt_add_r2 lt_add_r3 lt_add_r4 lt_add_r5 lt_add_r6 lt_add_r7 lt_add_r8
theorem findNow_sG {V:Type} (ev:V->Value) (s:ByteArray): ∀(es:List MapEntry) (m:List (ByteArray×V)),es.map (fun e=>(e.key,e.val))=m.map (fun p=>(ekS p.1,ev p.2))-> ∀i,
 Instr.findNow .string (.string s) es i=some ((locate eqS s m i).map fun p=>(p.1,ev p.2))
 | [],[],_,_=>rfl
 | [],_::_,h,_=>by simp at h
 |_::_,[],h,_=>by simp at h
 |e::es,p::m,h,i=>by
  simp only[List.map_cons,List.cons.injEq,Prod.mk.injEq]at h
  obtain⟨⟨hk,hv⟩,ht⟩:=h
  unfold Instr.findNow locate
  rw[hk,hv,ekS,Instr.sameNow,beq_toListBytes]
  cases hq:eqS s p.1
  ·rw[eqS]at hq
   rw[hq]
   simpa using findNow_sG ev s es m ht (i+1)
  ·rw[eqS]at hq
   rw[hq]
   rfl
theorem mapS_of {V:Type} {t et:TypeId} {ev:V->Value} {z:V} (ht:Tryz.prog.underlying t=some (.map 9 et)) (hz: ∀w,(zeroValue et).run Tryz.prog w= .ok (ev z) w):MapTy Tryz.prog t 9 et ekS ev z eqS where
 ht:=ht
 hz:=hz
 hck:=checkKey_s
 hfind:=fun k es m h w=>by
  simp[Instr.findKey,run_underlying Tryz.underlying9,ekS,findNow_sG ev k es m h 0]
 hsame:=fun k k' h=>by
  rw[ekS,ekS,sameBits_s,beq_toListBytes]
  rw[eqS]at h
  rw[eq_of_beq h]
  exact beq_self_eq_true _
def nilS:Value:= .slice none 0 0
theorem mapSB:MapTy Tryz.prog 87 9 4 ekS evB false eqS:=mapS_of Tryz.underlying87 (fun w=>by kernel_rfl)
theorem mapSS:MapTy Tryz.prog 88 9 33 ekS (fun v:Value=>v) nilS eqS:=mapS_of Tryz.underlying88 (fun w=>by kernel_rfl)
theorem mapSP:MapTy Tryz.prog 89 9 41 ekS (fun v:Value=>v) nilS eqS:=mapS_of Tryz.underlying89 (fun w=>by kernel_rfl)
theorem mapSF:MapTy Tryz.prog 130 9 45 ekS (fun v:Value=>v) (.agg #[.int .i64 0, .int .i64 0]) eqS:=mapS_of Tryz.underlying130 (fun w=>by kernel_rfl)
def ekP (p:ByteArray×ByteArray):Value:= .agg #[.string p.1, .string p.2]
def eqP (a b:ByteArray×ByteArray):Bool:=eqS a.1 b.1&&eqS a.2 b.2
theorem info_str: ∃i,Tryz.prog.info? 9=some i:=⟨_,(by kernel_rfl:Tryz.prog.info? 9=some (Tryz.prog.info? 9).get!)⟩
theorem cells_str:Tryz.prog.cellsOf 9=1:=by kernel_rfl
set_option maxRecDepth 100000 in
theorem equalIn_p (d:Nat) (a c a' c':ByteArray) (w:World):(Op.equalIn (d+2) 149 (.agg #[.string a, .string c]) (.agg #[.string a', .string c'])).run Tryz.prog w= .ok (eqS a a'&&eqS c c') w:=by
 obtain⟨i,hi⟩:=info_str
 rw[run_equalIn_array w (d+1) _ _ Tryz.underlying149 hi,cells_str]
 have hr:List.range 2=[0,1]:=rfl
 rw[hr]
 simp only[Op.eqItems,Sem.run_bind,Nat.zero_mul,Nat.one_mul]
 have hp: ∀(v:Array Value) (j:Nat) (x:ByteArray),v[j]?=some (.string x)-> ∀W,(part 9 v j).run Tryz.prog W= .ok (.string x) W:=fun v j x hv W=>by
  simp[part,isAgg,run_underlying Tryz.underlying9,hv]
 rw[hp _ 0 a rfl,Result.andThen_ok,hp _ 0 a' rfl,Result.andThen_ok,run_equalIn_string w d 9 a a' Tryz.underlying9,Result.andThen_ok]
 cases h1:(a.toList==a'.toList)
 ·simp[eqS,h1]
 ·simp only[Bool.not_true,Bool.false_eq_true,if_false,Sem.run_bind]
  rw[hp _ 1 c rfl,Result.andThen_ok,hp _ 1 c' rfl,Result.andThen_ok,run_equalIn_string w d 9 c c' Tryz.underlying9,Result.andThen_ok]
  cases h2:(c.toList==c'.toList)<;>simp[eqS,h1,h2]
theorem equal_p (a c a' c':ByteArray) (w:World):(Op.equal 149 (.agg #[.string a, .string c]) (.agg #[.string a', .string c'])).run Tryz.prog w= .ok (eqS a a'&&eqS c c') w:=equalIn_p 9998 a c a' c' w
theorem findNow_p (v:Value) (e:MapEntry) (es:List MapEntry) (n:Nat) (t:TypeId) (i:Nat):Instr.findNow (.array n t) v (e::es) i=none:=by
 unfold Instr.findNow
 cases v<;>simp[Instr.sameNow]
theorem findAsking_p (p:ByteArray×ByteArray) (w:World): ∀(es:List MapEntry) (m:List ((ByteArray×ByteArray)×Bool)),es.map (fun e=>(e.key,e.val))=m.map (fun p=>(ekP p.1,evB p.2))-> ∀i,
 (Instr.findAsking 149 (ekP p) es i).run Tryz.prog w= .ok ((locate eqP p m i).map fun p=>(p.1,evB p.2)) w
 | [],[],_,_=>by simp[Instr.findAsking,locate]
 | [],_::_,h,_=>by simp at h
 |_::_,[],h,_=>by simp at h
 |e::es,q::m,h,i=>by
  simp only[List.map_cons,List.cons.injEq,Prod.mk.injEq]at h
  obtain⟨⟨hk,hv⟩,ht⟩:=h
  unfold Instr.findAsking locate
  have h1:=equal_p p.1 p.2 q.1.1 q.1.2 w
  have h2:=findAsking_p p w es m ht (i+1)
  rw[hk,hv]
  simp only[ekP]at h1 h2⊢
  simp only[Sem.run_bind,h1,Result.andThen_ok]
  change Sem.run _ (if(eqP p q.1)=true then _ else _) w=_
  cases hq:eqP p q.1
  ·simpa using h2
  ·simp
theorem checkKey_p (e:Bool) (p:ByteArray×ByteArray) (w:World):(Instr.checkKey e 10000 149 (ekP p)).run Tryz.prog w= .ok () w:=by
 obtain⟨a,c⟩:=p
 cases e<;>kernel_rfl
theorem sameBits_p (a c a' c':ByteArray) (h1:a=a') (h2:c=c'):Instr.sameBits 10000 (.agg #[.string a, .string c]) (.agg #[.string a', .string c'])=true:=by
 subst h1 h2
 have h2: ∀n,Instr.sameBits (n+1) (.agg #[.string a, .string c]) (.agg #[.string a, .string c])=true:=fun n=>by simp[Instr.sameBits,sameBits_s,beq_toListBytes]
 exact h2 9999
theorem eqS_eq {a b:ByteArray} (h:eqS a b=true):a=b:=same_iff.1 h
theorem mapPB:MapTy Tryz.prog 90 149 4 ekP evB false eqP where
 ht:=Tryz.underlying90
 hz:=fun w=>by kernel_rfl
 hck:=checkKey_p
 hfind:=fun k es m h w=>by
  match es,m,h with
  | [],[],_=>simp[Instr.findKey,run_underlying Tryz.underlying149,Instr.findNow,locate]
  | [],_::_,h=>simp at h
  |e::es,m,h=>
   simp only[Instr.findKey,Sem.run_bind,run_underlying Tryz.underlying149,Result.andThen_ok,findNow_p]
   exact findAsking_p k w (e::es) m h 0
 hsame:=fun k k' h=>by
  obtain⟨a,c⟩:=k
  obtain⟨a',c'⟩:=k'
  simp only[eqP,Bool.and_eq_true]at h
  exact sameBits_p a' c' a c (eqS_eq h.1).symm (eqS_eq h.2).symm
end Go.Proofs.YtmaidggpbihlgaaGreatDoor
namespace Go.Proofs.YtmaidggpbihlgaaGreatDoor
open Go.RowKit
def sC (s:ByteArray):List Value:=[.string s]
theorem sC_len (s:ByteArray):(sC s).length=1:=rfl
theorem sC_one (s:ByteArray): ∀u∈sC s,u.oneCell'=true:=by simp[sC,Value.oneCell']
theorem pair_len (p:ByteArray×ByteArray):(pairCells p).length=2:=rfl
theorem pair_one (p:ByteArray×ByteArray): ∀u∈pairCells p,u.oneCell'=true:=by simp[pairCells,Value.oneCell']
def ptrC (T:Nat):List Value:=[.pointer (some ⟨T,0,none⟩)]
theorem ptrC_len (T:Nat):(ptrC T).length=1:=rfl
theorem ptrC_one (T:Nat): ∀u∈ptrC T,u.oneCell'=true:=by simp[ptrC,Value.oneCell']
theorem elStr5:ElTy Tryz.prog 33 9 1 16:=elTy_of (z:= .string ⟨#[]⟩) (by kernel_rfl) (by kernel_rfl) rfl (by decide)
theorem elPair:ElTy Tryz.prog 32 149 2 32:=elTy_of (z:= .agg #[.string ⟨#[]⟩, .string ⟨#[]⟩]) (by kernel_rfl) (by kernel_rfl) rfl (by decide)
theorem elTomb:ElTy Tryz.prog 93 83 1 8:=elTy_of (z:= .pointer none) (by kernel_rfl) (by kernel_rfl) rfl (by decide)
def Ro {α:Type} (W:World) (e:TypeId) (f:α->List Value) (A:Option Addr) (xs:List α):Prop:=
 0<xs.length-> ∃b off cur fr,A=some ⟨b,off,none⟩/\W.heap[b]?=some (.cells cur e fr)/\ ∀j u,(xs.flatMap f)[j]?=some u->cur[off+j]?=some u
section
variable {α:Type} {W W':World} {e:TypeId} {size base:Nat} {f:α->List Value} {A:Option Addr} {xs:List α} {v:Value}
theorem Ro.sl (hlen: ∀x,(f x).length=size) (h:Ro W e f A xs):Sl W size f A xs:=fun hl=>by
 obtain⟨b,off,cur,fr,hA,hb,hx⟩:=h hl
 refine⟨b,off,hA,(Array.getElem?_eq_some_iff.1 hb).1,fun k x hk j u hu=> ?_⟩
 have:=hx (k*size+j) u (flat_at f size hlen xs k x hk j u hu)
 simp only[World.cell?,hb,Nat.add_assoc]
 exact this
theorem Ro.same (h:Ro W e f A xs) (hk: ∀b cur fr,W.heap[b]?=some (.cells cur e fr)->(∀off,A=some ⟨b,off,none⟩->True)->W'.heap[b]?=W.heap[b]?):Ro W' e f A xs:=fun hl=>by
 obtain⟨b,off,cur,fr,hA,hb,hx⟩:=h hl
 exact⟨b,off,cur,fr,hA,(hk b cur fr hb fun _ _=>trivial).trans hb,hx⟩
theorem Ro.keep {n:Nat} (h:Ro W e f A xs) (hB:Below n W W') (hn:W.heap.size<=n:=by first|exact Nat.le_refl _|omega):Ro W' e f A xs:=
 h.same fun b cur fr hb _=>hB.block b (Nat.lt_of_lt_of_le (Array.getElem?_eq_some_iff.1 hb).1 hn)
theorem Ro.nil:Ro W e f A ([]:List α):=fun h=>absurd h (by simp)
theorem OwnS.ro (h:OwnS W base e size f v xs): ∃A c,v= .slice A xs.length c/\xs.length<=c/\Ro W e f A xs:=by
 rcases h with⟨rfl,rfl⟩|⟨g,o,c,cur,rfl,_,hg,hc,_,_,hx⟩
 ·exact⟨none,0,rfl,Nat.le_refl _,Ro.nil⟩
 ·exact⟨_,c,rfl,hc,fun _=>⟨g,o,cur,_,rfl,hg,hx⟩⟩
theorem OwnS.kept {g:Nat} {cs:Array Value} {t:TypeId} {fr:Nat×Nat} (h:OwnS W base e size f v xs) (hg:W.grownBy W' (some g)) (hx:W.heap[g]?=some (.cells cs t fr)) (hne:t≠e):OwnS W' base e size f v xs:=
 h.grown hg (by
  rcases h with⟨rfl,_⟩|⟨g',o,c,cur,rfl,_,hg',_⟩
  ·exact .inl rfl
  ·refine .inr fun e'=> ?_
   simp only[blkOf,Option.some.injEq]at e'
   subst e'
   rw[hg']at hx
   simp only[Option.some.injEq,Obj.cells.injEq]at hx
   exact hne hx.2.1.symm)
theorem OwnS.keptM {g:Nat} {es:Array MapEntry} {c:Nat} (h:OwnS W base e size f v xs) (hg:W.grownBy W' (some g)) (hx:W.heap[g]?=some (.map es c)):OwnS W' base e size f v xs:=
 h.grown hg (by
  rcases h with⟨rfl,_⟩|⟨g',o,c,cur,rfl,_,hg',_⟩
  ·exact .inl rfl
  ·refine .inr fun e'=> ?_
   simp only[blkOf,Option.some.injEq]at e'
   subst e'
   rw[hg']at hx
   simp at hx)
theorem Ro.kept {g:Nat} {cs:Array Value} {t:TypeId} {fr:Nat×Nat} (h:Ro W e f A xs) (hg:W.grownBy W' (some g)) (hx:W.heap[g]?=some (.cells cs t fr)) (hne:t≠e):Ro W' e f A xs:=
 h.same fun b cur fr' hb _=>hg.block b (Array.getElem?_eq_some_iff.1 hb).1 (fun e'=>by
  simp only[Option.some.injEq]at e'
  subst e'
  rw[hb]at hx
  simp only[Option.some.injEq,Obj.cells.injEq]at hx
  exact hne hx.2.1.symm)
theorem Ro.keptM {g:Nat} {es:Array MapEntry} {c:Nat} (h:Ro W e f A xs) (hg:W.grownBy W' (some g)) (hx:W.heap[g]?=some (.map es c)):Ro W' e f A xs:=
 h.same fun b cur fr' hb _=>hg.block b (Array.getElem?_eq_some_iff.1 hb).1 (fun e'=>by
  simp only[Option.some.injEq]at e'
  subst e'
  rw[hb]at hx
  simp at hx)
end
theorem MapS.keptC {W W':World} {b g:Nat} {K V:Type} {ek:K->Value} {ev:V->Value} {m:List (K×V)} {cs:Array Value} {t:TypeId} {fr:Nat×Nat} (h:MapS W b ek ev m) (hg:W.grownBy W' (some g)) (hx:W.heap[g]?=some (.cells cs t fr)):MapS W' b ek ev m:=
 h.grown hg (fun e=>by
  simp only[Option.some.injEq]at e
  subst e
  obtain⟨es,c,h1,_⟩:=h
  rw[h1]at hx
  simp at hx)
def vV (v:Value):Value:=v
def RowIs (W:World) (base:Nat) (m:List (ByteArray×Value)) (n:ByteArray) (xs:List ByteArray):Prop:=
 (mget eqS n m=none/\xs=[])\/ ∃v,mget eqS n m=some v/\OwnS W base 9 1 sC v xs
def WillIs (W:World) (m:List (ByteArray×Value)) (n:ByteArray) (xs:Parts):Prop:=
 (mget eqS n m=none/\xs=[])\/ ∃A c,mget eqS n m=some (.slice A xs.length c)/\Ro W 49 partCells A xs
def rowBlocks (m:List (ByteArray×Value)):List Nat:=m.filterMap fun e=>blkOf e.2
structure PplAt (base:Nat) (W:World) (B:List Nat) (d c p wl r:Nat) (mv:Value) (s:St):Prop where
 nd:[d,c,p,wl,r].Nodup
 ge:base<=d/\base<=c/\base<=p/\base<=wl/\base<=r
 dead:MapS W d ekS evB (s.dead.map fun n=>(n,true))
 rows: ∃mc mp,MapS W c ekS (fun v:Value=>v) mc/\MapS W p ekS (fun v:Value=>v) mp/\(∀n,RowIs W base mc n (childrenP s n))/\(∀n,RowIs W base mp n (parentsP s n))/\B=rowBlocks (mc++mp)/\(B.Nodup/\(mc.map (·.1)).Nodup/\(mp.map (·.1)).Nodup)
 marr:OwnS W base 149 2 pairCells mv s.marriages
 wills: ∃m,MapS W wl ekS (fun v:Value=>v) m/\ ∀n,WillIs W m n (willOf s n)
 ren:MapS W r ekP evB (s.renounce.map fun x=>(x,true))
def TombAt (W:World) (base:Nat) (B:List Nat) (T:Nat) (g:Grave):Prop:=
 ∃H hc D dc fr,TombC W T g.place g.cls fr g.fin (.slice H g.holders.length hc) (.slice D g.died.length dc)/\base<=T/\g.holders.length<=hc/\g.died.length<=dc/\Ro W 49 partCells H g.holders/\Ro W 9 sC D g.died/\(0<g.died.length-> ∀a,D=some a->a.block∉B)
structure TombsAt (base:Nat) (W:World) (B:List Nat) (tv:Value) (ps:List Nat) (gs:List Grave):Prop where
 own:OwnS W base 83 1 ptrC tv ps
 len:ps.length=gs.length
 nd:ps.Nodup
 all: ∀(i T:Nat) (g:Grave),ps[i]?=some T->gs[i]?=some g->TombAt W base B T g
def WldC (W:World) (b d c p wl r:Nat) (mv tv:Value) (last count:Int):Prop:=W.heap[b]?=some (.cells #[.map (some d), .map (some c), .map (some p),mv, .map (some wl), .map (some r),tv, .int .i64 last, .int .i64 count] 95)
def WldAt (base:Nat) (W:World) (b:Nat) (s:St) (last count:Int):Prop:=
 ∃B d c p wl r mv tv ps,base<=b/\WldC W b d c p wl r mv tv last count/\PplAt base W B d c p wl r mv s/\TombsAt base W B tv ps s.graves
def PeoAt (base:Nat) (W:World) (b:Nat) (s:St):Prop:= ∃B d c p wl r mv tv la co,WldC W b d c p wl r mv tv la co/\PplAt base W B d c p wl r mv s
section
variable {base n:Nat} {W W':World} {B:List Nat} {d c p wl r:Nat} {mv tv:Value} {s:St} {m:List (ByteArray×Value)} {nm:ByteArray}
theorem RowIs.keep {xs:List ByteArray} (h:RowIs W base m nm xs) (hB:Below n W W') (hn:W.heap.size<=n:=by first|exact Nat.le_refl _|omega):RowIs W' base m nm xs:=by
 rcases h with h|⟨v,h1,h2⟩
 ·exact .inl h
 ·exact .inr ⟨v,h1,h2.keep hB hn⟩
theorem WillIs.keep {xs:Parts} (h:WillIs W m nm xs) (hB:Below n W W') (hn:W.heap.size<=n:=by first|exact Nat.le_refl _|omega):WillIs W' m nm xs:=by
 rcases h with h|⟨A,c,h1,h2⟩
 ·exact .inl h
 ·exact .inr ⟨A,c,h1,h2.keep hB hn⟩
theorem PplAt.keep (h:PplAt base W B d c p wl r mv s) (hB:Below n W W') (hn:W.heap.size<=n:=by first|exact Nat.le_refl _|omega):PplAt base W' B d c p wl r mv s:=by
 obtain⟨mc,mp,k1,k2,k3,k4,k5,k6⟩:=h.rows
 obtain⟨m,k7,k8⟩:=h.wills
 exact⟨h.nd,h.ge,h.dead.below hB hn,⟨mc,mp,k1.below hB hn,k2.below hB hn,fun x=>(k3 x).keep hB hn,fun x=>(k4 x).keep hB hn,k5,k6⟩,h.marr.keep hB hn,⟨m,k7.below hB hn,fun x=>(k8 x).keep hB hn⟩,h.ren.below hB hn⟩
theorem TombAt.keep {T:Nat} {g:Grave} (h:TombAt W base B T g) (hB:Below n W W') (hn:W.heap.size<=n:=by first|exact Nat.le_refl _|omega):TombAt W' base B T g:=by
 obtain⟨H,hc,D,dc,fr,h1,h2,h3,h4,h5,h6,h7⟩:=h
 exact⟨H,hc,D,dc,fr,(hB.block T (Nat.lt_of_lt_of_le (blk_lt h1) hn)).trans h1,h2,h3,h4,h5.keep hB hn,h6.keep hB hn,h7⟩
theorem TombsAt.keep {ps:List Nat} {gs:List Grave} (h:TombsAt base W B tv ps gs) (hB:Below n W W') (hn:W.heap.size<=n:=by first|exact Nat.le_refl _|omega):TombsAt base W' B tv ps gs:=
 ⟨h.own.keep hB hn,h.len,h.nd,fun i T g h1 h2=>(h.all i T g h1 h2).keep hB hn⟩
theorem WldC.keep {b:Nat} {la co:Int} (h:WldC W b d c p wl r mv tv la co) (hB:Below n W W') (hn:W.heap.size<=n:=by first|exact Nat.le_refl _|omega):WldC W' b d c p wl r mv tv la co:=
 (hB.block b (Nat.lt_of_lt_of_le (blk_lt h) hn)).trans h
theorem WldAt.keep {b:Nat} {la co:Int} (h:WldAt base W b s la co) (hB:Below n W W') (hn:W.heap.size<=n:=by first|exact Nat.le_refl _|omega):WldAt base W' b s la co:=by
 obtain⟨B,d,c,p,wl,r,mv,tv,ps,h1,h2,h3,h4⟩:=h
 exact⟨B,d,c,p,wl,r,mv,tv,ps,h1,h2.keep hB hn,h3.keep hB hn,h4.keep hB hn⟩
theorem PeoAt.keep {b:Nat} (h:PeoAt base W b s) (hB:Below n W W') (hn:W.heap.size<=n:=by first|exact Nat.le_refl _|omega):PeoAt base W' b s:=by
 obtain⟨B,d,c,p,wl,r,mv,tv,la,co,h1,h2⟩:=h
 exact⟨B,d,c,p,wl,r,mv,tv,la,co,h1.keep hB hn,h2.keep hB hn⟩
theorem WldAt.peo {b:Nat} {la co:Int} (h:WldAt base W b s la co):PeoAt base W b s:=by
 obtain⟨B,d,c,p,wl,r,mv,tv,ps,h1,h2,h3,h4⟩:=h
 exact⟨B,d,c,p,wl,r,mv,tv,la,co,h2,h3⟩
theorem WldAt.lt {b:Nat} {la co:Int} (h:WldAt base W b s la co):b<W.heap.size/\base<=b:=by
 obtain⟨B,d,c,p,wl,r,mv,tv,ps,h1,h2,h3,h4⟩:=h
 exact⟨blk_lt h2,h1⟩
end
theorem PplAt.kept {base:Nat} {W W':World} {B:List Nat} {d c p wl r g:Nat} {mv:Value} {s:St} {cs:Array Value} {t:TypeId} {fr:Nat×Nat} (h:PplAt base W B d c p wl r mv s) (hg:W.grownBy W' (some g)) (hx:W.heap[g]?=some (.cells cs t fr))
 (h1:t≠9) (h2:t≠149) (h3:t≠49):PplAt base W' B d c p wl r mv s:=by
 obtain⟨mc,mp,k1,k2,k3,k4,k5,k6⟩:=h.rows
 obtain⟨m,k7,k8⟩:=h.wills
 have hrow: ∀ {m:List (ByteArray×Value)} {nm:ByteArray} {xs:List ByteArray},RowIs W base m nm xs->RowIs W' base m nm xs:=fun h=>by
  rcases h with h|⟨v,h1',h2'⟩
  ·exact .inl h
  ·exact .inr ⟨v,h1',h2'.kept hg hx h1⟩
 refine⟨h.nd,h.ge,h.dead.keptC hg hx,⟨mc,mp,k1.keptC hg hx,k2.keptC hg hx,fun x=>hrow (k3 x),fun x=>hrow (k4 x),k5,k6⟩,h.marr.kept hg hx h2,⟨m,k7.keptC hg hx,fun x=> ?_⟩,h.ren.keptC hg hx⟩
 rcases k8 x with h'|⟨A,c,e1,e2⟩
 ·exact .inl h'
 ·exact .inr ⟨A,c,e1,e2.kept hg hx h3⟩
end Go.Proofs.YtmaidggpbihlgaaGreatDoor
namespace Go.Proofs.YtmaidggpbihlgaaGreatDoor
open Go.RowKit Go.Shelf
attribute [local go_sem] World.cell?_alloc_mark ext_size ext_cell ext_frozen lt_add_r lt_add_r2 lt_add_r3 lt_add_r4 lt_add_r5 lt_add_r6 lt_add_r7 lt_add_r8
attribute [local go_sem] ext_setCell alloc_setCell_lt
theorem dead_get (n:ByteArray): ∀l:List ByteArray,(mget eqS n (l.map fun x=>(x,true))).getD false=l.any (sameB n)
 | []=>rfl
 |x::l=>by
  rw[List.map_cons,mget,List.any_cons]
  show(if eqS n x=true then some true else _).getD false=_
  have e:eqS n x=sameB n x:=rfl
  rw[e]
  cases h:sameB n x
  ·simpa using dead_get n l
  ·rfl
theorem ren_get (k:ByteArray×ByteArray): ∀l:List (ByteArray×ByteArray),(mget eqP k (l.map fun x=>(x,true))).getD false=l.any fun r=>sameB r.1 k.1&&sameB r.2 k.2
 | []=>rfl
 |x::l=>by
  rw[List.map_cons,mget,List.any_cons]
  have e1: ∀a b:ByteArray,sameB a b=sameB b a:=fun a b=>by
   rw[Bool.eq_iff_iff,same_iff,same_iff];exact⟨Eq.symm,Eq.symm⟩
  have e:eqP k x=(sameB x.1 k.1&&sameB x.2 k.2):=by rw[e1 x.1,e1 x.2];rfl
  show(if eqP k x=true then some true else _).getD false=_
  rw[e]
  cases h:(sameB x.1 k.1&&sameB x.2 k.2)
  ·simpa using ren_get k l
  ·rfl
theorem look_dead {base:Nat} {W:World} {B:List Nat} {d c p wl r:Nat} {mv:Value} {s:St} (h:PplAt base W B d c p wl r mv s) (n:ByteArray):
 (Instr.lookup 87 (.map (some d)) (.string n) false).run Tryz.prog W= .ok (.bool (isDeadP s n)) W:=by
 have:=run_lookup mapSB h.dead.at n
 rw[dead_get]at this
 exact this
theorem look_ren {base:Nat} {W:World} {B:List Nat} {d c p wl r:Nat} {mv:Value} {s:St} (h:PplAt base W B d c p wl r mv s) (a b:ByteArray):
 (Instr.lookup 90 (.map (some r)) (.agg #[.string a, .string b]) false).run Tryz.prog W= .ok (.bool (s.renounce.any fun x=>sameB x.1 a&&sameB x.2 b)) W:=by
 have:=run_lookup mapPB h.ren.at (a,b)
 rw[ren_get]at this
 exact this
theorem PplAt.drewN {base:Nat} {W:World} {B:List Nat} {d c p wl r:Nat} {mv:Value} {s:St} (h:PplAt base W B d c p wl r mv s) (q:Nat):PplAt base (W.drewN q) B d c p wl r mv s:=h.keep (n:=W.heap.size) ⟨rfl,rfl,rfl,Nat.le_refl _,fun _ _=>rfl⟩
set_option maxRecDepth 100000 in
set_option maxHeartbeats 2000000 in
theorem anyDeadC_any (base b X:Nat) (s:St) (q:RPart) (w:World) (hW:PeoAt base w b s) (hX:X<w.heap.size) (hc:w.cell? ⟨X,0,none⟩=some (.pointer (some ⟨b,0,none⟩))):
 Calls Tryz.prog 167 #[.agg #[.string q.name, .int .i64 q.num, .int .i64 q.den], .pointer (some ⟨X,0,none⟩)] w (Ret w (.bool (isDeadP s q.name))):=by
 obtain⟨B,d,c,p,wl,r,mv,tv,la,co,h1,h2⟩:=hW
 have hb:=blk_lt h1
 unfold WldC at h1
 have c0:w.cell? ⟨b,0,none⟩=some (.map (some d)):=by simp[World.cell?,h1]
 have hlk: ∀o q',(Instr.lookup 87 (.map (some d)) (.string q.name) false).run Tryz.prog ((w.alloc o).drewN q')= .ok (.bool (isDeadP s q.name)) ((w.alloc o).drewN q'):=fun o q'=>look_dead ((h2.keep (n:=w.heap.size) (B_alloc (Below.refl _ _) o)).drewN q') _
 have hXn:X≠w.heap.size:=by omega
 have hbn:b≠w.heap.size:=by omega
 clear h1 h2
 go_enter Tryz.func167,Tryz.ntmps167
 go_wp2_with fail
 go_quiet (fail)
 go_wp2_with fail
 go_ret
 exact Ret.of rfl Bw
theorem anyDead_gives (base b X:Nat) (s:St) (xs:List RPart) (w:World) (hW:PeoAt base w b s) (hX:X<w.heap.size) (hc:w.cell? ⟨X,0,none⟩=some (.pointer (some ⟨b,0,none⟩))):
 GivesOn 167 #[.pointer (some ⟨X,0,none⟩)] (fun x=> .agg (RPart.cells x).toArray) (fun q=>isDeadP s q.name) xs w:=fun x _ W hB=>by
 refine(anyDeadC_any base b X s x W (hW.keep hB) (Nat.lt_of_lt_of_le hX hB.size) ((hB.cell (p:=⟨X,0,none⟩) hX).trans hc)).mono ?_
 rintro e wq ⟨rfl,z,rfl⟩
 exact⟨rfl,hB.trans ((below_ext W z).mono hB.size)⟩
set_option maxRecDepth 100000 in
set_option maxHeartbeats 2000000 in
theorem anyDead_any (base b:Nat) (s:St) (xs:List RPart) (A:Option Addr) (n c:Nat) (w:World) (hn:n=xs.length) (hl:xs.length<=100000) (hW:PeoAt base w b s) (hS:Sl w 3 RPart.cells A xs):
 Calls Tryz.prog 129 #[.pointer (some ⟨b,0,none⟩), .slice A n c] w (Ret w (.bool (deadPart s xs))):=by
 have eg: ∀args w,(callFunc 167 args).run Tryz.prog w= .ok (.enter 167 args) w:=enters_of Tryz.func167 (by kernel_rfl) rfl
 have HS:=Lib.hid hS
 have HW:=Lib.hid hW
 have HN:=Lib.hid hn
 clear hS hW hn
 go_enter Tryz.func129,Tryz.ntmps129
 go_wp2_with (go_at_call 78
              refine(cfPart_any _ _ eg (fun q=>isDeadP s q.name) _ n _ xs _ HN.out hl (HS.out.keep (n:=w.heap.size) Bw) (anyDead_gives base b _ s xs _ (HW.out.keep (n:=w.heap.size) Bw) (by simp) (by simp[go_sem]))).mono ?_
              rintro e wq ⟨rfl,z,rfl⟩)
 go_ret
 exact Ret.of rfl Bw
theorem coStr_any (xs:List ByteArray) (x:ByteArray) (A:Option Addr) (n c:Nat) (w:World) (hn:n=xs.length) (hl:xs.length<=100000) (hS:Sl w 1 sC A xs):
 Calls Tryz.prog 49 #[.slice A n c, .string x] w (Ret0 w (.bool (xs.any (sameB x)))):=by
 subst hn
 by_cases h0:xs.length=0
 ·have hx:xs=[]:=List.eq_nil_of_length_eq_zero h0
  subst hx
  have hcon:=AnyE.slices_Contains_empty coStr A c (.string x) w
  change Calls Tryz.prog 49 _ _ _ at hcon
  refine hcon.mono ?_
  rintro e wq ⟨rfl,rfl⟩
  exact⟨rfl,rfl⟩
 ·obtain⟨b,off,rfl,hb,hc⟩:=hS (by omega)
  haveI:Inhabited ByteArray:=⟨⟨#[]⟩⟩
  have hcon:=AnyE.slices_Contains coStr Value.string (fun a b:ByteArray=>a.toList==b.toList) (EqlAt.string _ _) b off xs.length c xs x w (Nat.le_refl _) (by omega) (fun j hj=>by
   rw[getElem!_pos xs j hj]
   have:=hc j _ (List.getElem?_eq_getElem hj) 0 _ rfl
   simpa using this)
  rw[List.take_of_length_le (Nat.le_refl _)]at hcon
  change Calls Tryz.prog 49 _ _ _ at hcon
  refine hcon.mono ?_
  rintro e wq ⟨rfl,rfl⟩
  exact⟨rfl,rfl⟩
theorem eqlPair:EqlAt Tryz.prog 149 (fun x:ByteArray×ByteArray=> .agg (pairCells x).toArray) eqP:=by
 refine⟨fun x y w=> ?_,GuardAt.agg _ (by kernel_rfl)⟩
 show(binOp .eql 149 (.agg #[.string x.1, .string x.2]) (.agg #[.string y.1, .string y.2])).run Tryz.prog w=_
 rw[run_eql_struct,equalIn_p 9998 x.1 x.2 y.1 y.2 w]
 rfl
set_option maxRecDepth 100000 in
set_option maxHeartbeats 2000000 in
theorem ixPairNil (A:Option Addr) (c:Nat) (a b:ByteArray) (w:World):Calls Tryz.prog 136 #[.slice A 0 c, .agg #[.string a, .string b]] w (Ret w (.int .i64 (-1))):=by
 go_enter Tryz.func136,Tryz.ntmps136
 go_wp2_with fail
 go_loopw [5,8] (fun _ i wr=>i= .int .i64 0/\ ∃z,wr=w.ext z) (fun _ _ _=>0)
 case atStart=>exact⟨rfl,ext_below Bw⟩
 case round=>
  obtain⟨rfl,z,rfl⟩:=hrel
  go_wp2_with fail
  go_ret
  exact Ret.of rfl Bw
set_option maxRecDepth 100000 in
set_option maxHeartbeats 2000000 in
theorem coPairNil (A:Option Addr) (c:Nat) (a b:ByteArray) (w:World):Calls Tryz.prog 90 #[.slice A 0 c, .agg #[.string a, .string b]] w (Ret w (.bool false)):=by
 go_enter Tryz.func90,Tryz.ntmps90
 go_wp2_with (go_at_call 136;refine(ixPairNil _ _ _ _ _).mono ?_;rintro e wq ⟨rfl,z,rfl⟩)
 go_ret
 exact Ret.of rfl Bw
theorem coPair_any (xs:List (ByteArray×ByteArray)) (a b:ByteArray) (A:Option Addr) (n c:Nat) (w:World) (hn:n=xs.length) (hl:xs.length<=100000) (hS:Sl w 2 pairCells A xs):
 Calls Tryz.prog 90 #[.slice A n c, .agg #[.string a, .string b]] w (Ret w (.bool (xs.any fun y=>eqP (a,b) y))):=by
 subst hn
 by_cases h0:xs.length=0
 ·have hx:xs=[]:=List.eq_nil_of_length_eq_zero h0
  subst hx
  refine(coPairNil _ _ _ _ _).mono ?_
  rintro e wq ⟨rfl,z,rfl⟩
  exact Ret.of rfl Bw
 ·obtain⟨b',off,rfl,hb,hc⟩:=hS (by omega)
  haveI:Inhabited (ByteArray×ByteArray):=⟨(⟨#[]⟩,⟨#[]⟩)⟩
  have hcon:=AnyQ.slices_Contains coPair 2 Tryz.isAgg149 Tryz.sizeOf149 pairCells (fun _=>rfl) eqP eqlPair b' off xs.length c xs (a,b) w (Nat.le_refl _) (by omega) (fun j hj i v hi=>by
   rw[getElem!_pos xs j hj]at hi
   exact hc j _ (List.getElem?_eq_getElem hj) i v hi)
  rw[List.take_of_length_le (Nat.le_refl _)]at hcon
  change Calls Tryz.prog 90 _ _ _ at hcon
  refine hcon.mono ?_
  rintro e wq ⟨rfl,hB⟩
  exact Ret.of rfl hB
def marriedP (s:St) (a b:ByteArray):Bool:=s.marriages.any (fun y=>eqP (a,b) y)||s.marriages.any fun y=>eqP (b,a) y
set_option maxRecDepth 100000 in
set_option maxHeartbeats 2000000 in
theorem wereMarried_any (base b:Nat) (s:St) (x y:ByteArray) (w:World) (hW:PeoAt base w b s) (hl:s.marriages.length<=100000):
 Calls Tryz.prog 47 #[.pointer (some ⟨b,0,none⟩), .string x, .string y] w (Ret w (.bool (marriedP s x y))):=by
 obtain⟨B,d,c,p,wl,r,mv,tv,la,co,h1,h2⟩:=hW
 obtain⟨A,cc,rfl,hS,hc⟩:=h2.marr.sl pair_len
 have hb:=blk_lt h1
 unfold WldC at h1
 have c3:w.cell? ⟨b,3,none⟩=some (.slice A s.marriages.length cc):=by simp[World.cell?,h1]
 have HS:=Lib.hid hS
 clear h1 h2 hS
 go_enter Tryz.func47,Tryz.ntmps47
 go_wp2_with (go_at_call 90;refine(coPair_any s.marriages _ _ A _ cc _ rfl hl (HS.out.keep (n:=w.heap.size) Bw)).mono ?_;intro e wq hq;rcases Ret.bools hq with⟨zq,rfl,⟨hb,rfl⟩|⟨hb,rfl⟩⟩<;>clear hq)
 all_goals go_ret
 all_goals exact Ret.of (bool_eq (by simp[marriedP, *])) Bw
end Go.Proofs.YtmaidggpbihlgaaGreatDoor
