import Derived.Test.YtegdimedhfafjaaGreatDoorJ9
set_option linter.all false
set_option maxRecDepth 100000
set_option maxHeartbeats 4000000
namespace Go.Proofs.YtegdimedhfafjaaGreatDoor
open Go.RowKit
attribute [local go_sem] World.cell?_alloc_mark zaf za5 zao za8 zav zaw zax zay zaz za0 za1
theorem zj8{V:Type}(ev:V->Value)(s:ByteArray):∀(es:List MapEntry) (m:List (ByteArray×V)),es.map (fun e=>(e.key,e.val))=m.map (fun p=>(ekS p.1,ev p.2))->∀i,
 Instr.findNow .string (.string s) es i=some ((locate eqS s m i).map fun p=>(p.1,ev p.2))
 | [],[],_,_=>rfl
 | [],_::_,h,_=>by simp at h
 |_::_,[],h,_=>by simp at h
 |e::es,p::m,h,i=>by
  simp only[List.map_cons,List.cons.injEq,Prod.mk.injEq]at h;obtain⟨⟨hk,hv⟩,ht⟩:=h;unfold Instr.findNow locate;rw[hk,hv,ekS,Instr.sameNow,beq_toListBytes];cases hq:eqS s p.1
  ·rw[eqS]at hq;rw[hq];simpa using zj8 ev s es m ht (i+1)
  ·rw[eqS]at hq;rw[hq];rfl
theorem zkp{V:Type}{t et:TypeId}{ev:V->Value}{z:V}(ht:Tryz.prog.underlying t=some (.map 9 et))(hz:∀w,(zeroValue et).run Tryz.prog w=.ok (ev z) w):MapTy Tryz.prog t 9 et ekS ev z eqS where
 ht:=ht
 hz:=hz
 hck:=zor
 hfind:=fun k es m h w=>by
  simp[Instr.findKey,run_underlying Tryz.underlying9,ekS,zj8 ev k es m h 0]
 hsame:=fun k k' h=>by
  rw[ekS,ekS,zgP,beq_toListBytes];rw[eqS]at h;rw[eq_of_beq h];exact beq_self_eq_true _
def nilS:Value:=.slice none 0 0
theorem zo0:MapTy Tryz.prog 89 9 4 ekS evB false eqS:=zkp Tryz.underlying89 (fun w=>by kernel_rfl)
theorem zmC:MapTy Tryz.prog 90 9 38 ekS (fun v:Value=>v) nilS eqS:=zkp Tryz.underlying90 (fun w=>by kernel_rfl)
theorem mapSP:MapTy Tryz.prog 91 9 26 ekS (fun v:Value=>v) nilS eqS:=zkp Tryz.underlying91 (fun w=>by kernel_rfl)
theorem mapSF:MapTy Tryz.prog 174 9 56 ekS (fun v:Value=>v) (.agg #[.int .i64 0,.int .i64 0]) eqS:=zkp Tryz.underlying174 (fun w=>by kernel_rfl)
def ekP(p:ByteArray×ByteArray):Value:=.agg #[.string p.1,.string p.2]
def eqP(a b:ByteArray×ByteArray):Bool:=eqS a.1 b.1&&eqS a.2 b.2
theorem info_str:∃i,Tryz.prog.info? 9=some i:=⟨_,(by kernel_rfl:Tryz.prog.info? 9=some (Tryz.prog.info? 9).get!)⟩
theorem cells_str:Tryz.prog.cellsOf 9=1:=by kernel_rfl
theorem zlj(d:Nat)(a c a' c':ByteArray)(w:World):(Op.equalIn (d+2) 122 (.agg #[.string a,.string c]) (.agg #[.string a',.string c'])).run Tryz.prog w=.ok (eqS a a'&&eqS c c') w:=by
 obtain⟨i,hi⟩:=info_str;rw[run_equalIn_array w (d+1) _ _ Tryz.underlying122 hi,cells_str];have hr:List.range 2=[0,1]:=rfl;rw[hr];simp only[Op.eqItems,Sem.run_bind,Nat.zero_mul,Nat.one_mul];have hp:∀(v:Array Value) (j:Nat) (x:ByteArray),v[j]?=some (.string x)->∀W,(part 9 v j).run Tryz.prog W=.ok (.string x) W:=fun v j x hv W=>by
  simp[part,isAgg,run_underlying Tryz.underlying9,hv]
 rw[hp _ 0 a rfl,Result.andThen_ok,hp _ 0 a' rfl,Result.andThen_ok,run_equalIn_string w d 9 a a' Tryz.underlying9,Result.andThen_ok];cases h1:(a.toList==a'.toList)
 ·simp[eqS,h1]
 ·simp only[Bool.not_true,Bool.false_eq_true,if_false,Sem.run_bind];rw[hp _ 1 c rfl,Result.andThen_ok,hp _ 1 c' rfl,Result.andThen_ok,run_equalIn_string w d 9 c c' Tryz.underlying9,Result.andThen_ok];cases h2:(c.toList==c'.toList)<;>simp[eqS,h1,h2]
theorem equal_p(a c a' c':ByteArray)(w:World):(Op.equal 122 (.agg #[.string a,.string c]) (.agg #[.string a',.string c'])).run Tryz.prog w=.ok (eqS a a'&&eqS c c') w:=zlj 9998 a c a' c' w
theorem findNow_p(v:Value)(e:MapEntry)(es:List MapEntry)(n:Nat)(t:TypeId)(i:Nat):Instr.findNow (.array n t) v (e::es) i=none:=by
 unfold Instr.findNow;cases v<;>simp[Instr.sameNow]
theorem zht(p:ByteArray×ByteArray)(w:World):∀(es:List MapEntry) (m:List ((ByteArray×ByteArray)×Bool)),es.map (fun e=>(e.key,e.val))=m.map (fun p=>(ekP p.1,evB p.2))->∀i,
 (Instr.findAsking 122 (ekP p) es i).run Tryz.prog w=.ok ((locate eqP p m i).map fun p=>(p.1,evB p.2)) w
 | [],[],_,_=>by simp[Instr.findAsking,locate]
 | [],_::_,h,_=>by simp at h
 |_::_,[],h,_=>by simp at h
 |e::es,q::m,h,i=>by
  simp only[List.map_cons,List.cons.injEq,Prod.mk.injEq]at h;obtain⟨⟨hk,hv⟩,ht⟩:=h;unfold Instr.findAsking locate;have h1:=equal_p p.1 p.2 q.1.1 q.1.2 w;have h2:=zht p w es m ht (i+1);rw[hk,hv];simp only[ekP]at h1 h2⊢;simp only[Sem.run_bind,h1,Result.andThen_ok];change Sem.run _ (if(eqP p q.1)=true then _ else _) w=_;cases hq:eqP p q.1
  ·simpa using h2
  ·simp
theorem zo1(e:Bool)(p:ByteArray×ByteArray)(w:World):(Instr.checkKey e 10000 122 (ekP p)).run Tryz.prog w=.ok () w:=by
 obtain⟨a,c⟩:=p;cases e<;>kernel_rfl
theorem zo2(a c a' c':ByteArray)(h1:a=a')(h2:c=c'):Instr.sameBits 10000 (.agg #[.string a,.string c]) (.agg #[.string a',.string c'])=true:=by
 subst h1 h2;have h2:∀n,Instr.sameBits (n+1) (.agg #[.string a,.string c]) (.agg #[.string a,.string c])=true:=fun n=>by simp[Instr.sameBits,zgP,beq_toListBytes]
 exact h2 9999
theorem eqS_eq{a b:ByteArray}(h:eqS a b=true):a=b:=za2.1 h
theorem mapPB:MapTy Tryz.prog 92 122 4 ekP evB false eqP where
 ht:=Tryz.underlying92
 hz:=fun w=>by kernel_rfl
 hck:=zo1
 hfind:=fun k es m h w=>by
  match es,m,h with
  | [],[],_=>simp[Instr.findKey,run_underlying Tryz.underlying122,Instr.findNow,locate]
  | [],_::_,h=>simp at h
  |e::es,m,h=>
   simp only[Instr.findKey,Sem.run_bind,run_underlying Tryz.underlying122,Result.andThen_ok,findNow_p];exact zht k w (e::es) m h 0
 hsame:=fun k k' h=>by
  obtain⟨a,c⟩:=k;obtain⟨a',c'⟩:=k';simp only[eqP,Bool.and_eq_true]at h;exact zo2 a' c' a c (eqS_eq h.1).symm (eqS_eq h.2).symm
section
def sC(s:ByteArray):List Value:=[.string s]
theorem zaD(s:ByteArray):(sC s).length=1:=rfl
theorem zbL(s:ByteArray):∀u∈sC s,u.oneCell'=true:=by simp[sC,Value.oneCell']
theorem zbj(p:ByteArray×ByteArray):(zaR p).length=2:=rfl
theorem zdA(p:ByteArray×ByteArray):∀u∈zaR p,u.oneCell'=true:=by simp[zaR,Value.oneCell']
def ptrC(T:Nat):List Value:=[.pointer (some ⟨T,0,none⟩)]
theorem zcW(T:Nat):(ptrC T).length=1:=rfl
theorem znO(T:Nat):∀u∈ptrC T,u.oneCell'=true:=by simp[ptrC,Value.oneCell']
theorem zbM:ElTy Tryz.prog 38 9 1 16:=zd3 (z:=.string ⟨#[]⟩) Mcn Mcn rfl Mco
theorem zgv:ElTy Tryz.prog 37 122 2 32:=zd3 (z:=.agg #[.string ⟨#[]⟩,.string ⟨#[]⟩]) Mcn Mcn rfl Mco
theorem elTomb:ElTy Tryz.prog 95 81 1 8:=zd3 (z:=.pointer none) Mcn Mcn rfl Mco
def Ro{α:Type}(W:World)(e:TypeId)(f:α->List Value)(A:Option Addr)(xs:List α):Prop:=
 0<xs.length->∃b off cur fr,A=some ⟨b,off,none⟩/\W.heap[b]?=some (.cells cur e fr)/\∀j u,(xs.flatMap f)[j]?=some u->cur[off+j]?=some u
section
variable {α:Type} {W W':World} {e:TypeId} {size base:Nat} {f:α->List Value} {A:Option Addr} {xs:List α} {v:Value}
theorem Ro.sl(ag:∀x,(f x).length=size)(h:Ro W e f A xs):Sl W size f A xs:=fun hl=>by
 obtain⟨b,off,cur,fr,hA,hb,hx⟩:=h hl;refine⟨b,off,hA,(Array.getElem?_eq_some_iff.1 hb).1,fun k x hk j u hu=>?_⟩;have:=hx (k*size+j) u (zeV f size ag xs k x hk j u hu);simp only[World.cell?,hb,Nat.add_assoc];exact this
theorem Ro.same(h:Ro W e f A xs)(hk:∀b cur fr,W.heap[b]?=some (.cells cur e fr)->(∀off,A=some ⟨b,off,none⟩->True)->W'.heap[b]?=W.heap[b]?):Ro W' e f A xs:=fun hl=>by
 obtain⟨b,off,cur,fr,hA,hb,hx⟩:=h hl;exact⟨b,off,cur,fr,hA,(hk b cur fr hb fun _ _=>trivial).trans hb,hx⟩
theorem Ro.keep{n:Nat}(h:Ro W e f A xs)(hB:Below n W W')(hn:W.heap.size<=n:=by first|exact Nat.le_refl _|omega):Ro W' e f A xs:=
 h.same fun b cur fr hb _=>hB.block b (Nat.lt_of_lt_of_le (Array.getElem?_eq_some_iff.1 hb).1 hn)
theorem Ro.nil:Ro W e f A ([]:List α):=fun h=>absurd h Mcp
theorem OwnS.ro(h:OwnS W base e size f v xs):∃A c,v=.slice A xs.length c/\xs.length<=c/\Ro W e f A xs:=by
 rcases h with⟨rfl,rfl⟩|⟨g,o,c,cur,rfl,_,hg,hc,_,_,hx⟩
 ·exact⟨none,0,rfl,Nat.le_refl _,Ro.nil⟩
 ·exact⟨_,c,rfl,hc,fun _=>⟨g,o,cur,_,rfl,hg,hx⟩⟩
theorem OwnS.kept{g:Nat}{cs:Array Value}{t:TypeId}{fr:Nat×Nat}(h:OwnS W base e size f v xs)(hg:W.grownBy W' (some g))(hx:W.heap[g]?=some (.cells cs t fr))(ai:t≠e):OwnS W' base e size f v xs:=
 h.grown hg (by
  rcases h with⟨rfl,_⟩|⟨g',o,c,cur,rfl,_,fC,_⟩
  ·exact .inl rfl
  ·refine .inr fun e'=>?_
   simp only[za7,Option.some.injEq]at e';subst e';rw[fC]at hx;simp only[Option.some.injEq,Obj.cells.injEq]at hx
   exact ai hx.2.1.symm)
theorem OwnS.keptM{g:Nat}{es:Array MapEntry}{c:Nat}(h:OwnS W base e size f v xs)(hg:W.grownBy W' (some g))(hx:W.heap[g]?=some (.map es c)):OwnS W' base e size f v xs:=
 h.grown hg (by
  rcases h with⟨rfl,_⟩|⟨g',o,c,cur,rfl,_,fC,_⟩
  ·exact .inl rfl
  ·refine .inr fun e'=>?_
   simp only[za7,Option.some.injEq]at e';subst e';rw[fC]at hx
   simp at hx)
theorem Ro.kept{g:Nat}{cs:Array Value}{t:TypeId}{fr:Nat×Nat}(h:Ro W e f A xs)(hg:W.grownBy W' (some g))(hx:W.heap[g]?=some (.cells cs t fr))(ai:t≠e):Ro W' e f A xs:=
 h.same fun b cur fr' hb _=>hg.block b (Array.getElem?_eq_some_iff.1 hb).1 (fun e'=>by
  simp only[Option.some.injEq]at e';subst e';rw[hb]at hx;simp only[Option.some.injEq,Obj.cells.injEq]at hx
  exact ai hx.2.1.symm)
theorem Ro.keptM{g:Nat}{es:Array MapEntry}{c:Nat}(h:Ro W e f A xs)(hg:W.grownBy W' (some g))(hx:W.heap[g]?=some (.map es c)):Ro W' e f A xs:=
 h.same fun b cur fr' hb _=>hg.block b (Array.getElem?_eq_some_iff.1 hb).1 (fun e'=>by
  simp only[Option.some.injEq]at e';subst e';rw[hb]at hx
  simp at hx)
end
theorem MapS.keptC{W W':World}{b g:Nat}{K V:Type}{ek:K->Value}{ev:V->Value}{m:List (K×V)}{cs:Array Value}{t:TypeId}{fr:Nat×Nat}(h:MapS W b ek ev m)(hg:W.grownBy W' (some g))(hx:W.heap[g]?=some (.cells cs t fr)):MapS W' b ek ev m:=
 h.grown hg (fun e=>by
  simp only[Option.some.injEq]at e;subst e;obtain⟨es,c,h1,_⟩:=h;rw[h1]at hx
  simp at hx)
def RowIs(W:World)(base:Nat)(m:List (ByteArray×Value))(n:ByteArray)(xs:List ByteArray):Prop:=
 (mget eqS n m=none/\xs=[])\/∃v,mget eqS n m=some v/\OwnS W base 9 1 sC v xs
def WillIs(W:World)(m:List (ByteArray×Value))(n:ByteArray)(xs:Parts):Prop:=
 (mget eqS n m=none/\xs=[])\/∃A c,mget eqS n m=some (.slice A xs.length c)/\Ro W 62 zaa A xs
def zaY(m:List (ByteArray×Value)):List Nat:=m.filterMap fun e=>za7 e.2
structure PplAt (base:Nat) (W:World) (B:List Nat) (d c p wl r:Nat) (mv:Value) (s:St):Prop where
 nd:[d,c,p,wl,r].Nodup
 ge:base<=d/\base<=c/\base<=p/\base<=wl/\base<=r
 dead:MapS W d ekS evB (s.dead.map fun n=>(n,true))
 rows:∃mc mp,MapS W c ekS (fun v:Value=>v) mc/\MapS W p ekS (fun v:Value=>v) mp/\(∀n,RowIs W base mc n (zai s n))/\(∀n,RowIs W base mp n (zbR s n))/\B=zaY (mc++mp)/\(B.Nodup/\(mc.map (·.1)).Nodup/\(mp.map (·.1)).Nodup)
 marr:OwnS W base 122 2 zaR mv s.marriages
 wills:∃m,MapS W wl ekS (fun v:Value=>v) m/\∀n,WillIs W m n (zbw s n)
 ren:MapS W r ekP evB (s.renounce.map fun x=>(x,true))
def TombAt(W:World)(base:Nat)(B:List Nat)(T:Nat)(g:Grave):Prop:=
 ∃H hc D dc fr,zbz W T g.place g.cls fr g.fin (.slice H g.holders.length hc) (.slice D g.died.length dc)/\base<=T/\g.holders.length<=hc/\g.died.length<=dc/\Ro W 62 zaa H g.holders/\Ro W 9 sC D g.died/\(0<g.died.length->∀a,D=some a->a.block∉B)
structure TombsAt (base:Nat) (W:World) (B:List Nat) (tv:Value) (ps:List Nat) (gs:List Grave):Prop where
 own:OwnS W base 81 1 ptrC tv ps
 len:ps.length=gs.length
 nd:ps.Nodup
 all:∀(i T:Nat) (g:Grave),ps[i]?=some T->gs[i]?=some g->TombAt W base B T g
def WldC(W:World)(b d c p wl r:Nat)(mv tv:Value)(last count:Int):Prop:=W.heap[b]?=some (.cells #[.map (some d),.map (some c),.map (some p),mv,.map (some wl),.map (some r),tv,.int .i64 last,.int .i64 count] 97)
def WldAt(base:Nat)(W:World)(b:Nat)(s:St)(last count:Int):Prop:=
 ∃B d c p wl r mv tv ps,base<=b/\WldC W b d c p wl r mv tv last count/\PplAt base W B d c p wl r mv s/\TombsAt base W B tv ps s.graves
def PeoAt(base:Nat)(W:World)(b:Nat)(s:St):Prop:= ∃B d c p wl r mv tv la co,WldC W b d c p wl r mv tv la co/\PplAt base W B d c p wl r mv s
section
variable {base n:Nat} {W W':World} {B:List Nat} {d c p wl r:Nat} {mv tv:Value} {s:St} {m:List (ByteArray×Value)} {nm:ByteArray}
theorem RowIs.keep{xs:List ByteArray}(h:RowIs W base m nm xs)(hB:Below n W W')(hn:W.heap.size<=n:=by first|exact Nat.le_refl _|omega):RowIs W' base m nm xs:=by
 rcases h with h|⟨v,h1,h2⟩
 ·exact .inl h
 ·exact .inr ⟨v,h1,h2.keep hB hn⟩
theorem WillIs.keep{xs:Parts}(h:WillIs W m nm xs)(hB:Below n W W')(hn:W.heap.size<=n:=by first|exact Nat.le_refl _|omega):WillIs W' m nm xs:=by
 rcases h with h|⟨A,c,h1,h2⟩
 ·exact .inl h
 ·exact .inr ⟨A,c,h1,h2.keep hB hn⟩
theorem PplAt.keep(h:PplAt base W B d c p wl r mv s)(hB:Below n W W')(hn:W.heap.size<=n:=by first|exact Nat.le_refl _|omega):PplAt base W' B d c p wl r mv s:=by
 obtain⟨mc,mp,k1,k2,k3,k4,k5,k6⟩:=h.rows;obtain⟨m,k7,k8⟩:=h.wills;exact⟨h.nd,h.ge,h.dead.below hB hn,⟨mc,mp,k1.below hB hn,k2.below hB hn,fun x=>(k3 x).keep hB hn,fun x=>(k4 x).keep hB hn,k5,k6⟩,h.marr.keep hB hn,⟨m,k7.below hB hn,fun x=>(k8 x).keep hB hn⟩,h.ren.below hB hn⟩
theorem TombAt.keep{T:Nat}{g:Grave}(h:TombAt W base B T g)(hB:Below n W W')(hn:W.heap.size<=n:=by first|exact Nat.le_refl _|omega):TombAt W' base B T g:=by
 obtain⟨H,hc,D,dc,fr,h1,h2,h3,h4,h5,h6,h7⟩:=h;exact⟨H,hc,D,dc,fr,(hB.block T (Nat.lt_of_lt_of_le (zab h1) hn)).trans h1,h2,h3,h4,h5.keep hB hn,h6.keep hB hn,h7⟩
theorem TombsAt.keep{ps:List Nat}{gs:List Grave}(h:TombsAt base W B tv ps gs)(hB:Below n W W')(hn:W.heap.size<=n:=by first|exact Nat.le_refl _|omega):TombsAt base W' B tv ps gs:=
 ⟨h.own.keep hB hn,h.len,h.nd,fun i T g h1 h2=>(h.all i T g h1 h2).keep hB hn⟩
theorem WldC.keep{b:Nat}{la co:Int}(h:WldC W b d c p wl r mv tv la co)(hB:Below n W W')(hn:W.heap.size<=n:=by first|exact Nat.le_refl _|omega):WldC W' b d c p wl r mv tv la co:=
 (hB.block b (Nat.lt_of_lt_of_le (zab h) hn)).trans h
theorem WldAt.keep{b:Nat}{la co:Int}(h:WldAt base W b s la co)(hB:Below n W W')(hn:W.heap.size<=n:=by first|exact Nat.le_refl _|omega):WldAt base W' b s la co:=by
 obtain⟨B,d,c,p,wl,r,mv,tv,ps,h1,h2,h3,h4⟩:=h;exact⟨B,d,c,p,wl,r,mv,tv,ps,h1,h2.keep hB hn,h3.keep hB hn,h4.keep hB hn⟩
theorem PeoAt.keep{b:Nat}(h:PeoAt base W b s)(hB:Below n W W')(hn:W.heap.size<=n:=by first|exact Nat.le_refl _|omega):PeoAt base W' b s:=by
 obtain⟨B,d,c,p,wl,r,mv,tv,la,co,h1,h2⟩:=h;exact⟨B,d,c,p,wl,r,mv,tv,la,co,h1.keep hB hn,h2.keep hB hn⟩
theorem WldAt.peo{b:Nat}{la co:Int}(h:WldAt base W b s la co):PeoAt base W b s:=by
 obtain⟨B,d,c,p,wl,r,mv,tv,ps,h1,h2,h3,h4⟩:=h;exact⟨B,d,c,p,wl,r,mv,tv,la,co,h2,h3⟩
theorem WldAt.lt{b:Nat}{la co:Int}(h:WldAt base W b s la co):b<W.heap.size/\base<=b:=by
 obtain⟨B,d,c,p,wl,r,mv,tv,ps,h1,h2,h3,h4⟩:=h;exact⟨zab h2,h1⟩
end
theorem PplAt.kept{base:Nat}{W W':World}{B:List Nat}{d c p wl r g:Nat}{mv:Value}{s:St}{cs:Array Value}{t:TypeId}{fr:Nat×Nat}(h:PplAt base W B d c p wl r mv s)(hg:W.grownBy W' (some g))(hx:W.heap[g]?=some (.cells cs t fr))
 (h1:t≠9)(h2:t≠122)(h3:t≠62):PplAt base W' B d c p wl r mv s:=by
 obtain⟨mc,mp,k1,k2,k3,k4,k5,k6⟩:=h.rows;obtain⟨m,k7,k8⟩:=h.wills;have bh:∀ {m:List (ByteArray×Value)} {nm:ByteArray} {xs:List ByteArray},RowIs W base m nm xs->RowIs W' base m nm xs:=fun h=>by
  rcases h with h|⟨v,pH,Jm⟩
  ·exact .inl h
  ·exact .inr ⟨v,pH,Jm.kept hg hx h1⟩
 refine⟨h.nd,h.ge,h.dead.keptC hg hx,⟨mc,mp,k1.keptC hg hx,k2.keptC hg hx,fun x=>bh (k3 x),fun x=>bh (k4 x),k5,k6⟩,h.marr.kept hg hx h2,⟨m,k7.keptC hg hx,fun x=>?_⟩,h.ren.keptC hg hx⟩;rcases k8 x with h'|⟨A,c,e1,e2⟩
 ·exact .inl h'
 ·exact .inr ⟨A,c,e1,e2.kept hg hx h3⟩
end
section
open Go.Shelf
attribute [local go_sem] zaq zad
theorem zhG(n:ByteArray):∀l:List ByteArray,(mget eqS n (l.map fun x=>(x,true))).getD false=l.any (zae n)
 | []=>rfl
 |x::l=>by
  rw[List.map_cons,mget,List.any_cons];show(if eqS n x=true then some true else _).getD false=_;have e:eqS n x=zae n x:=rfl;rw[e];cases h:zae n x
  ·simpa using zhG n l
  ·rfl
theorem zmD(k:ByteArray×ByteArray):∀l:List (ByteArray×ByteArray),(mget eqP k (l.map fun x=>(x,true))).getD false=l.any fun r=>zae r.1 k.1&&zae r.2 k.2
 | []=>rfl
 |x::l=>by
  rw[List.map_cons,mget,List.any_cons];have e1:∀a b:ByteArray,zae a b=zae b a:=fun a b=>by
   rw[Bool.eq_iff_iff,za2,za2];exact⟨Eq.symm,Eq.symm⟩
  have e:eqP k x=(zae x.1 k.1&&zae x.2 k.2):=by rw[e1 x.1,e1 x.2];rfl
  show(if eqP k x=true then some true else _).getD false=_;rw[e];cases h:(zae x.1 k.1&&zae x.2 k.2)
  ·simpa using zmD k l
  ·rfl
theorem zdu{base:Nat}{W:World}{B:List Nat}{d c p wl r:Nat}{mv:Value}{s:St}(h:PplAt base W B d c p wl r mv s)(n:ByteArray):
 (Instr.lookup 89 (.map (some d)) (.string n) false).run Tryz.prog W=.ok (.bool (zaM s n)) W:=by
 have:=zb4 zo0 h.dead.at n;rw[zhG]at this;exact this
theorem znP{base:Nat}{W:World}{B:List Nat}{d c p wl r:Nat}{mv:Value}{s:St}(h:PplAt base W B d c p wl r mv s)(a b:ByteArray):
 (Instr.lookup 92 (.map (some r)) (.agg #[.string a,.string b]) false).run Tryz.prog W=.ok (.bool (s.renounce.any fun x=>zae x.1 a&&zae x.2 b)) W:=by
 have:=zb4 mapPB h.ren.at (a,b);rw[zmD]at this;exact this
theorem PplAt.drewN{base:Nat}{W:World}{B:List Nat}{d c p wl r:Nat}{mv:Value}{s:St}(h:PplAt base W B d c p wl r mv s)(q:Nat):PplAt base (W.drewN q) B d c p wl r mv s:=h.keep (n:=W.heap.size) ⟨rfl,rfl,rfl,Nat.le_refl _,fun _ _=>rfl⟩
theorem zlk(base b X:Nat)(s:St)(q:RPart)(w:World)(hW:PeoAt base w b s)(hX:X<w.heap.size)(hc:w.cell? ⟨X,0,none⟩=some (.pointer (some ⟨b,0,none⟩))):
 Calls Tryz.prog 121 #[.agg #[.string q.name,.int .i64 q.num,.int .i64 q.den],.pointer (some ⟨X,0,none⟩)] w (Ret w (.bool (zaM s q.name))):=by
 obtain⟨B,d,c,p,wl,r,mv,tv,la,co,h1,h2⟩:=hW;have hb:=zab h1;unfold WldC at h1;have c0:w.cell? ⟨b,0,none⟩=some (.map (some d)):=Meo;have fq:∀o q',(Instr.lookup 89 (.map (some d)) (.string q.name) false).run Tryz.prog ((w.alloc o).drewN q')=.ok (.bool (zaM s q.name)) ((w.alloc o).drewN q'):=fun o q'=>zdu ((h2.keep (n:=w.heap.size) (zac (Below.refl _ _) o)).drewN q') _
 have hXn:X≠w.heap.size:=Mcm;have hJ:b≠w.heap.size:=Mcm;clear h1 h2;go_enter Tryz.func121,Tryz.ntmps121
 go_wp2_with fail
 go_quiet (fail)
 exact Mar
theorem zkq(base b X:Nat)(s:St)(xs:List RPart)(w:World)(hW:PeoAt base w b s)(hX:X<w.heap.size)(hc:w.cell? ⟨X,0,none⟩=some (.pointer (some ⟨b,0,none⟩))):
 zeY 121 #[.pointer (some ⟨X,0,none⟩)] (fun x=> .agg (RPart.cells x).toArray) (fun q=>zaM s q.name) xs w:=fun x _ W hB=>by
 refine(zlk base b X s x W (hW.keep hB) (Nat.lt_of_lt_of_le hX hB.size) ((hB.cell (p:=⟨X,0,none⟩) hX).trans hc)).mono ?_;rintro e wq ⟨rfl,z,rfl⟩;exact⟨rfl,hB.trans ((zap W z).mono hB.size)⟩
theorem ziu(base b:Nat)(s:St)(xs:List RPart)(A:Option Addr)(n c:Nat)(w:World)(hn:n=xs.length)(hl:xs.length<=100000)(hW:PeoAt base w b s)(hS:Sl w 3 RPart.cells A xs):
 Calls Tryz.prog 84 #[.pointer (some ⟨b,0,none⟩),.slice A n c] w (Ret w (.bool (zdZ s xs))):=by
 have eg:∀args w,(callFunc 121 args).run Tryz.prog w=.ok (.enter 121 args) w:=enters_of Tryz.func121 Mcn rfl;obtain⟨HS,HW,HN⟩:=yH3 hS hW hn;clear hS hW hn;go_enter Tryz.func84,Tryz.ntmps84
 go_wp2_with (go_at_call 48
              refine(zcJ _ _ eg (fun q=>zaM s q.name) _ n _ xs _ HN.o hl (HS.o.keep (n:=w.heap.size) Bw) (zkq base b _ s xs _ (HW.o.keep (n:=w.heap.size) Bw) Mcp McR)).mono ?_
              rintro e wq ⟨rfl,z,rfl⟩)
 go_ret
 exact Ret.of rfl Bw
theorem zll(xs:List ByteArray)(x:ByteArray)(A:Option Addr)(n c:Nat)(w:World)(hn:n=xs.length)(hl:xs.length<=100000)(hS:Sl w 1 sC A xs):
 Calls Tryz.prog 37 #[.slice A n c,.string x] w (Ret0 w (.bool (xs.any (zae x)))):=by
 subst hn;by_cases h0:xs.length=0
 ·have hx:xs=[]:=List.eq_nil_of_length_eq_zero h0;subst hx;have bz:=AnyE.slices_Contains_empty coStr A c (.string x) w;change Calls Tryz.prog 37 _ _ _ at bz;exact Mbe
 ·obtain⟨b,off,rfl,hb,hc⟩:=hS Mcm;haveI:Inhabited ByteArray:=⟨⟨#[]⟩⟩
  have bz:=AnyE.slices_Contains coStr Value.string (fun a b:ByteArray=>a.toList==b.toList) (EqlAt.string _ _) b off xs.length c xs x w (Nat.le_refl _) Mcm (fun j hj=>by
   rw[getElem!_pos xs j hj];have:=hc j _ (List.getElem?_eq_getElem hj) 0 _ rfl
   simpa using this)
  rw[List.take_of_length_le (Nat.le_refl _)]at bz;change Calls Tryz.prog 37 _ _ _ at bz;exact Mbe
theorem eqlPair:EqlAt Tryz.prog 122 (fun x:ByteArray×ByteArray=> .agg (zaR x).toArray) eqP:=by
 refine⟨fun x y w=>?_,GuardAt.agg _ Mcn⟩;show(binOp .eql 122 (.agg #[.string x.1,.string x.2]) (.agg #[.string y.1,.string y.2])).run Tryz.prog w=_;rw[run_eql_struct,zlj 9998 x.1 x.2 y.1 y.2 w];rfl
theorem ixPairNil(A:Option Addr)(c:Nat)(a b:ByteArray)(w:World):Calls Tryz.prog 114 #[.slice A 0 c,.agg #[.string a,.string b]] w (Ret w (.int .i64 (-1))):=by
 go_enter Tryz.func114,Tryz.ntmps114
 go_wp2_with fail
 go_loopw [5,8] (fun _ i wr=>i=.int .i64 0/\∃z,wr=w.ext z) (fun _ _ _=>0)
 case atStart=>exact⟨rfl,zaV Bw⟩
 case round=>
  obtain⟨rfl,z,rfl⟩:=hrel;exact Mar
theorem coPairNil(A:Option Addr)(c:Nat)(a b:ByteArray)(w:World):Calls Tryz.prog 69 #[.slice A 0 c,.agg #[.string a,.string b]] w (Ret w (.bool false)):=by
 go_enter Tryz.func69,Tryz.ntmps69
 go_wp2_with (go_at_call 114;refine(ixPairNil _ _ _ _ _).mono ?_;rintro e wq ⟨rfl,z,rfl⟩)
 go_ret
 exact Ret.of rfl Bw
theorem zo3(xs:List (ByteArray×ByteArray))(a b:ByteArray)(A:Option Addr)(n c:Nat)(w:World)(hn:n=xs.length)(hl:xs.length<=100000)(hS:Sl w 2 zaR A xs):
 Calls Tryz.prog 69 #[.slice A n c,.agg #[.string a,.string b]] w (Ret w (.bool (xs.any fun y=>eqP (a,b) y))):=by
 subst hn;by_cases h0:xs.length=0
 ·have hx:xs=[]:=List.eq_nil_of_length_eq_zero h0;subst hx;refine(coPairNil _ _ _ _ _).mono ?_;rintro e wq ⟨rfl,z,rfl⟩;exact Ret.of rfl Bw
 ·obtain⟨b',off,rfl,hb,hc⟩:=hS Mcm;haveI:Inhabited (ByteArray×ByteArray):=⟨(⟨#[]⟩,⟨#[]⟩)⟩
  have bz:=AnyQ.slices_Contains coPair 2 Tryz.isAgg122 Tryz.sizeOf122 zaR (fun _=>rfl) eqP eqlPair b' off xs.length c xs (a,b) w (Nat.le_refl _) Mcm (fun j hj i v hi=>by
   rw[getElem!_pos xs j hj]at hi
   exact hc j _ (List.getElem?_eq_getElem hj) i v hi)
  rw[List.take_of_length_le (Nat.le_refl _)]at bz;change Calls Tryz.prog 69 _ _ _ at bz;exact Mbc
def zhH(s:St)(a b:ByteArray):Bool:=s.marriages.any (fun y=>eqP (a,b) y)||s.marriages.any fun y=>eqP (b,a) y
theorem ziv(base b:Nat)(s:St)(x y:ByteArray)(w:World)(hW:PeoAt base w b s)(hl:s.marriages.length<=100000):
 Calls Tryz.prog 35 #[.pointer (some ⟨b,0,none⟩),.string x,.string y] w (Ret w (.bool (zhH s x y))):=by
 obtain⟨B,d,c,p,wl,r,mv,tv,la,co,h1,h2⟩:=hW;obtain⟨A,cc,rfl,hS,hc⟩:=h2.marr.sl zbj;have hb:=zab h1;unfold WldC at h1;have c3:w.cell? ⟨b,3,none⟩=some (.slice A s.marriages.length cc):=Meo;have HS:=zHi hS;clear h1 h2 hS;go_enter Tryz.func35,Tryz.ntmps35
 go_wp2_with (go_at_call 69;refine(zo3 s.marriages _ _ A _ cc _ rfl hl (HS.o.keep (n:=w.heap.size) Bw)).mono ?_;intro e wq hq;rcases Ret.bools hq with⟨zq,rfl,⟨hb,rfl⟩|⟨hb,rfl⟩⟩<;>clear hq)
 all_goals go_ret
 all_goals exact Ret.of (zaO (by simp[zhH, *])) Bw
end
open Go.Shelf
attribute [local go_sem] Oper.semAt_some
abbrev Pair2:=ByteArray×ByteArray
def pr0:Pair2:=(⟨#[]⟩,⟨#[]⟩)
def zeb(ms:List Pair2)(k:Nat):List (Int×Pair2):=(List.range k).map fun j=>(((ms.length-1-j:Nat):Int),ms.getD (ms.length-1-j) pr0)
theorem zmE(ms:List Pair2)(k:Nat):zeb ms (k+1)=zeb ms k++[(((ms.length-1-k:Nat):Int),ms.getD (ms.length-1-k) pr0)]:=by
 unfold zeb;rw[List.range_succ,List.map_append];rfl
theorem zo4(ms:List Pair2)(k:Nat):(zeb ms k).length=k:=by simp[zeb]
theorem zo5(ms:List Pair2):(zeb ms ms.length).map (·.2)=ms.reverse:=by
 unfold zeb;apply List.ext_getElem
 ·simp
 ·intro i h1 h2;simp at h1;rw[List.getElem_reverse];exact Mbs
theorem zmF(ms:List Pair2)(k:Nat)(hk:k<=ms.length):(zeb ms k).map Prod.snd=ms.reverse.take k:=by
 unfold zeb;apply List.ext_getElem
 ·simp;omega
 ·intro i h1 h2;simp at h1;rw[List.getElem_take,List.getElem_reverse];exact Mbs
def encB(x:Int×Pair2):Array Value:= #[.int .i64 x.1,.agg #[.string x.2.1,.string x.2.2]]
theorem back1_in(n:Nat)(hn:1<=n)(l n₀ Bs:Nat)(ms:List Pair2)(A:Option Addr)(c:Nat)(hl:ms.length<=100000)(J Jx:List (Int×Pair2)->World->Prop)
 (hY:∀pre x W,J pre W->pre.length<ms.length->YieldAt Fence.wide (n-1) Tryz.prog l (encB x) W fun e W'=>
   (e=.returned (.bool true)/\J (pre++[x]) W'/\Below n₀ W W')\/(e=.returned (.bool false)/\Jx (pre++[x]) W'))
 (W:World)(vN:Bs<n₀)(Cc:W.cell? ⟨Bs,0,none⟩=some (.slice A ms.length c))(hS:∀W',Below n₀ W W'->Sl W' 2 zaR A ms)(h0:J [] W):
 CallsIn Fence.wide n Tryz.prog 164 #[.func (.yield l) #[] #[],.pointer (some ⟨Bs,0,none⟩)] W fun e W'=>(∃v,e=.returned v)/\
  ((∃ys,ys=zeb ms ms.length/\J ys W')\/(∃pre,(∃k,k<=ms.length/\pre=zeb ms k)/\Jx pre W')):=by
 refine callsIn_of_wp Tryz.func164 rfl trivial ?_ rfl;simp only[Tryz.ntmps164,List.size_toArray,List.length_cons,List.length_nil,Nat.reduceAdd,Nat.reduceSub,Array.replicate_succ,Array.replicate_zero,List.push_toArray,List.append_toArray,List.nil_append,List.cons_append];have us:IntKind.i64.wrap ((ms.length:Int)-1)=(ms.length:Int)-1:=IntWalk.i64_in _ Mcm;gi_wp2
 gi_loopw [3] (fun i wr=>∃k:Nat,k<=ms.length/\i=.int .i64 ((ms.length:Int)-1-k)/\J (zeb ms k) wr/\Below n₀ W wr) (fun i _=>(intOf i+1).toNat)
 case atStart=>exact⟨0,Nat.zero_le _,by simp,h0,Below.refl _ _⟩
 case round=>
  obtain⟨k,hk,rfl,Fq,hB⟩:=hrel;have bj:wr.cell? ⟨Bs,0,none⟩=some (.slice A ms.length c):=(hB.cell (p:=⟨Bs,0,none⟩) vN).trans Cc;by_cases aa:k<ms.length
  ·have hi:ms.length-1-k<ms.length:=Mcm;obtain⟨b,off,rfl,hb,hc⟩:=(hS wr hB).at hi;obtain⟨fn,tmps,assign,body,hy,hR⟩:=hY _ (((ms.length-1-k:Nat):Int),ms.getD (ms.length-1-k) pr0) wr Fq (by rw[zo4];exact aa);have bP:ms.getD (ms.length-1-k) pr0=ms[ms.length-1-k]:=by rw[List.getD_eq_getElem?_getD,List.getElem?_eq_getElem hi];rfl
   have HT:=zHi (zmE ms k);rw[bP]at hy hR;have HG:=zHi bP;clear bP;generalize ms[ms.length-1-k]=m at hc hy hR HG;obtain⟨m1,m2⟩:=m;have c0:wr.cell? ⟨b,off+(ms.length-1-k)*2,none⟩=some (.string m1):=hc 0 _ rfl;have c1:wr.cell? ⟨b,off+(ms.length-1-k)*2+1,none⟩=some (.string m2):=hc 1 _ rfl;obtain⟨j,hj⟩:∃j:Nat,j=ms.length-1-k:=⟨_,rfl⟩
   rw[<-hj]at c0 c1 hy hR HT HG hi;have cz:(ms.length:Int)-1-k=(j:Int):=Mcm;have sB:(0:Int)<=(j:Int):=Mcm;have cW:(j:Int)<(ms.length:Int):=Mcm;rw[cz];have HJ:=zHi cz;clear cz hj hc;simp only[encB]at hy hR;gi_wp2
   refine hR.mono ?_;rintro e W3 (⟨rfl,JG,ud⟩|⟨rfl,Cq⟩)
   ·have jI:IntKind.i64.wrap ((j:Int)-1)=(j:Int)-1:=IntWalk.i64_in _ Mcm;have Kt:W3.cell? ⟨Bs,0,none⟩=some (.slice (some ⟨b,off,none⟩) ms.length c):=(ud.cell (p:=⟨Bs,0,none⟩) vN).trans bj;gi_wp2
    go_roundw
    case rel=>exact⟨k+1,by omega,by have:=HJ.o;exact zbC Mcm,by rw[HT.o,HG.o];exact JG,hB.trans ud⟩
    case measure=>(have:=HJ.o;simp[intOf];first|done|omega)
   ·gi_wp2
    refine bodyPost_ret (results_none rfl _ _ _) rfl ?_;exact⟨⟨_,rfl⟩,.inr ⟨_,⟨k+1,by omega,rfl⟩,by rw[HT.o,HG.o];exact Cq⟩⟩
  ·obtain rfl:k=ms.length:=by omega
   have oR:(ms.length:Int)-1-(ms.length:Int)= -1:=Mcm;rw[oR];gi_wp2
   go_end0
   exact⟨⟨_,rfl⟩,.inl ⟨_,rfl,Fq⟩⟩
theorem back1_seq(n:Nat)(hn:1<=n)(n₀ Bs:Nat)(ms:List Pair2)(A:Option Addr)(c:Nat)(hl:ms.length<=100000)(w:World)(GJ:n₀<=w.heap.size)(vN:Bs<n₀)(Cc:w.cell? ⟨Bs,0,none⟩=some (.slice A ms.length c))(hS:∀W',Below n₀ w W'->Sl W' 2 zaR A ms):
 SeqStopsK Fence.wide n Tryz.prog 164 #[.pointer (some ⟨Bs,0,none⟩)] encB (Below n₀) (fun ys=>ys=zeb ms ms.length) (fun pre=>∃k,k<=ms.length/\pre=zeb ms k) ms.length w:=fun l J Jx W hW _ _ hY JF=>
 back1_in n hn l n₀ Bs ms A c hl J Jx hY W vN ((hW.cell (p:=⟨Bs,0,none⟩) (Nat.lt_of_lt_of_le vN GJ)).trans Cc) (fun W' h=>hS W' ((hW.mono GJ).trans h)) JF
theorem zlm{fn:Func}{p:Tmp}(h:fn.results= #[.cell p 9])(tmps:Array Value)(w:World)(B:Nat)(x:ByteArray)(hp:tmps.getD p undef=.pointer (some ⟨B,0,none⟩))
 (h0:w.cell? ⟨B,0,none⟩=some (.string x)):(results fn tmps).run Tryz.prog w=.ok (.string x) w:=by
 rw[zdD h,hp];go_simp
theorem back_any(A:Option Addr)(n c:Nat)(w:World):Calls Tryz.prog 134 #[.slice A n c] w fun e w'=>e=.returned (.func (.func 164) #[] #[.pointer (some ⟨w.heap.size,0,none⟩)])/\w'=w.alloc (.cells #[.slice A n c] 37):=by
 go_enter Tryz.func134,Tryz.ntmps134
 exact MaF
def hasN(m:Pair2)(n:ByteArray):Bool:=zae m.1 n||zae m.2 n
def zeR(m:Pair2)(n:ByteArray):ByteArray:=if zae m.1 n then m.2 else m.1
theorem ziw{n:ByteArray}:∀ {l:List Pair2},(∀m∈l,hasN m n=false)->zdl n l=⟨#[]⟩
 | [],_=>rfl
 |m::l,h=>by
  have h0:=h m Mcp;simp only[hasN,Bool.or_eq_false_iff]at h0;rw[zdl,h0.1,h0.2];simpa using ziw fun x hx=>h x (by simp[hx])
theorem zix{n:ByteArray}{m:Pair2}{b:List Pair2}(hm:hasN m n=true):∀ {a:List Pair2},(∀m∈a,hasN m n=false)->zdl n (a++m::b)=zeR m n
 | [],_=>by
   rw[List.nil_append,zdl,zeR];cases h:zae m.1 n
   ·simp only[hasN,h,Bool.false_or]at hm;simp[hm]
   ·simp
 |x::a,h=>by
  have h0:=h x Mcp;simp only[hasN,Bool.or_eq_false_iff]at h0;rw[List.cons_append,zdl,h0.1,h0.2];simpa using zix hm fun x hx=>h x (by simp[hx])
def marks5(Ds:List Nat):List Deferred:=Ds.map fun D=> {target:=.collected D,args:= #[]}
theorem ze9{F:Fence}{n:Nat}{P:Program}{fn:Func}{tmps:Array Value}{R:Ending->World->Prop}{base:Nat}:∀(Ds:List Nat) (w:World),Ds.Nodup->(∀D∈Ds,base<=D/\w.heap[D]?=some (.deferred (some [])))->
 (∀w',Below base w w'->(∀(k:Nat) (cs:Array Value) (t:TypeId) (fr:Nat×Nat),w.heap[k]?=some (.cells cs t fr)->w'.heap[k]?=some (.cells cs t fr))->∃v,(results fn tmps).run P w'=.ok v w'/\R (.returned v) w')->
 LeavesInM F n P fn tmps R (marks5 Ds) .returning w
 | [],w,_,_,h=>h w (Below.refl _ _) fun _ _ _ _ h=>h
 |D::Ds,w,cR,hD,h=>by
  obtain⟨hb,hK⟩:=hD D Mcp;have xT:=List.nodup_cons.1 cR;refine⟨by simp,.inl ⟨D,_,rfl,run_takeDeferred hK,?_⟩⟩;have hp:∀k,k≠D->(w.putObj D (.deferred none)).heap[k]?=w.heap[k]?:=fun k hk=>by
   simp only[World.putObj,Array.getElem?_setIfInBounds];rw[if_neg (fun e=>hk e.symm)]
  refine ze9 Ds (w.putObj D (.deferred none)) xT.2 (fun D' ry=>⟨(hD D' (by simp[ry])).1,(hp D' (fun e=>xT.1 (e▸ry))).trans (hD D' (by simp[ry])).2⟩) fun w' hB hc=>?_
  refine h w' (Below.trans (⟨rfl,rfl,rfl,by simp[World.putObj],fun k hk=>hp k Mcm⟩:Below base w (w.putObj D (.deferred none))) hB) fun k cs t fr hk=>hc k cs t fr ((hp k (fun e=>?_)).trans hk)
  subst e;rw[hK]at hk;cases hk
theorem znQ{A B:World}{row:Option Nat}{k:Nat}{cs:Array Value}{t:TypeId}{fr:Nat×Nat}(h:A.heap[k]?=some (.cells cs t fr))(hg:A.grownBy B row)(hr:∀r,row=some r->∃o:Obj,A.heap[r]?=some o/\o.isCells=false):B.heap[k]?=some (.cells cs t fr):=
 (hg.block k (zab h) (fun e=>by
   obtain⟨o,ho,hc⟩:=hr k e.symm;rw[h]at ho;simp only[Option.some.injEq]at ho;subst ho
   cases hc)).trans h
def SpI(x:ByteArray)(W0:World)(pre:List (Int×Pair2))(W:World):Prop:=(∀m∈pre.map Prod.snd,hasN m x=false)/\Below W0.heap.size W0 W
def SpIx(s:St)(x:ByteArray)(w:World)(c:Code)(pre:List (Int×Pair2))(W:World):Prop:=
 (c=.ret/\∃a m,pre.map Prod.snd=a++[m]/\(∀y∈a,hasN y x=false)/\hasN m x=true/\W.heap[w.heap.size+1+1]?=some (.cells #[.string (if zaM s (zeR m x)then⟨#[]⟩else zeR m x)] 9 (0,0)))/\Below w.heap.size w W
theorem spouse_in(base b:Nat)(s:St)(x:ByteArray)(w:World)(hW:PeoAt base w b s)(hl:s.marriages.length<=100000):
 CallsIn Fence.wide 9 Tryz.prog 95 #[.pointer (some ⟨b,0,none⟩),.string x] w (Ret w (.string (zaK s x))):=by
 obtain⟨B,d,c,p,wl,r,mv,tv,la,co,h1,h2⟩:=hW;obtain⟨A,cc,rfl,hS,hc⟩:=h2.marr.sl zbj;have hb:=zab h1;unfold WldC at h1;have c3:w.cell? ⟨b,3,none⟩=some (.slice A s.marriages.length cc):=Meo;obtain⟨HS,H1,H2⟩:=yH3 hS h1 h2;clear h1 h2 hS;refine callsIn_of_wp_marks Tryz.func95 rfl trivial ?_ rfl;simp only[Tryz.ntmps95,List.size_toArray,List.length_cons,List.length_nil,Nat.reduceAdd,Nat.reduceSub,Array.replicate_succ,Array.replicate_zero,List.push_toArray,List.append_toArray,List.nil_append,List.cons_append];have aU:b≠w.heap.size:=Mcm;have bF:b≠w.heap.size+1:=Mcm;gi_wp2_with (refine⟨trivial,?_⟩;gi_at_call 134;refine(callsIn_wide.2 (back_any _ _ _ _)).mono ?_;rintro e wq ⟨rfl,rfl⟩)
 generalize ao:((((w.alloc (.cells #[.pointer (some ⟨b,0,none⟩)] 120)).alloc (.cells #[.string x] 9)).alloc (.cells #[.string ⟨#[]⟩] 9)).alloc (.cells #[.slice A s.marriages.length cc] 37))=W0;have AG:W0.heap.size=w.heap.size+4:=by rw[<-ao];simp
 have s0:W0.heap[w.heap.size]?=some (.cells #[.pointer (some ⟨b,0,none⟩)] 120 (0,0)):=by rw[<-ao];exact zak (zak (zak (zas _ _ _ rfl)))
 have s1:W0.heap[w.heap.size+1]?=some (.cells #[.string x] 9 (0,0)):=by rw[<-ao];exact zak (zak (zas _ _ _ Mcp))
 have s2:W0.heap[w.heap.size+1+1]?=some (.cells #[.string ⟨#[]⟩] 9 (0,0)):=by rw[<-ao];exact zak (zas _ _ _ Mcp)
 have s3:W0.heap[w.heap.size+1+1+1]?=some (.cells #[.slice A s.marriages.length cc] 37 (0,0)):=by rw[<-ao];exact zas _ _ _ Mcp
 have aO:Below w.heap.size w W0:=by rw[<-ao];exact Bw
 have aE:W0.cell? ⟨w.heap.size+1+1+1,0,none⟩=some (.slice A s.marriages.length cc):=by simp[World.cell?,s3]
 clear ao;obtain⟨S0,S1,S2⟩:=yH3 s0 s1 s2;clear s0 s1 s2 s3;refine wpIn_rangeFunc_ownH rfl Mcm (gf:=164) (lb:= #[.pointer (some ⟨w.heap.size+1+1+1,0,none⟩)]) rfl trivial (enters_of Tryz.func164 Mcn rfl)
  (back1_seq (9-1) Mcm W0.heap.size (w.heap.size+1+1+1) s.marriages A cc hl W0 (Nat.le_refl _) Mcm aE (fun W' h=>(HS.o.keep aO).keep h)) belowK_t (belowK_b (Nat.le_refl _)) (Below.refl _ _) (fun _=>rfl)
  (fun(pre:List (Int×Pair2)) W=>SpI x W0 pre W)
  (fun c (pre:List (Int×Pair2)) W=>SpIx s x w c pre W)
  (fun s A B row hs hg hr=>⟨hs.1,hs.2.grown hg hs.2.size (fun r e=>(hr r e).1)⟩)
  (fun cc s A B row hs hg hr=>⟨by obtain⟨⟨h1,a,m,h2,h3,h4,h5⟩,_⟩:=hs;exact⟨h1,a,m,h2,h3,h4,znQ h5 hg (fun r e=>(hr r e).2)⟩,hs.2.grown hg hs.2.size (fun r e=>by have:=(hr r e).1;omega)⟩)
  ⟨by simp,Below.refl _ _⟩
  (fun y a' W=>∃Bx,W0.heap.size<=Bx/\W.heap[Bx]?=some (.cells #[.string y.2.1,.string y.2.2] 122 (0,0))/\a'= {tmps:= #[.pointer (some ⟨b,0,none⟩),.string x,.pointer (some ⟨w.heap.size,0,none⟩),.pointer (some ⟨w.heap.size+1,0,none⟩),.pointer (some ⟨w.heap.size+1+1,0,none⟩),undef,.pointer (some ⟨Bx,0,none⟩),undef,undef,undef,.pointer (some ⟨b,0,none⟩),.pointer (some ⟨b,0,none⟩),.pointer (some ⟨b,3,none⟩),.slice A s.marriages.length cc,.func (.func 164) #[] #[.pointer (some ⟨w.heap.size+1+1+1,0,none⟩)],.int .i64 y.1,.agg #[.string y.2.1,.string y.2.2],undef,undef,undef,undef,undef,undef,undef,undef,undef,undef,undef,undef,undef,undef,undef,undef,undef,undef,undef,undef,undef],defers:=[]})
  (fun y a' s A B row hs hg hr=>by obtain⟨Bx,h1,h2,h3⟩:=hs;exact⟨Bx,h1,znQ h2 hg (fun r e=>(hr r e).2),h3⟩) ?assign ?body ?done ?stop
 case assign=>
  rintro l pre ⟨yi,y1,y2⟩ W K hi hK;simp only[encB];gi_wp2
  exact hK _ _ ((KeepsOthers.alloc _ _).from _) (zac (Below.refl _ _) _ hi.2.size) ⟨hi.1,zac hi.2 _⟩ ⟨W.heap.size,hi.2.size,zas _ _ _ rfl,rfl⟩
 case body=>
  rintro l pre ⟨yi,y1,y2⟩ a' W hWl _ ⟨hp,eO⟩ ⟨Bx,eB,fh,rfl⟩ ag;simp only at fh;have t0:=(eO.block w.heap.size Mcm).trans S0.o;have t1:=(eO.block (w.heap.size+1) Mcm).trans S1.o;have t2:=(eO.block (w.heap.size+1+1) Mcm).trans S2.o;have tW:=(eO.block b Mcm).trans ((aO.block b hb).trans H1.o);have tR:=H2.o.keep (aO.trans (eO.mono Mcm));have k0:W.cell? ⟨w.heap.size,0,none⟩=some (.pointer (some ⟨b,0,none⟩)):=by simp[World.cell?,t0]
  have k1:W.cell? ⟨w.heap.size+1,0,none⟩=some (.string x):=by simp[World.cell?,t1]
  have k2:W.cell? ⟨w.heap.size+1+1,0,none⟩=some (.string ⟨#[]⟩):=by simp[World.cell?,t2]
  have k3:W.frozen? ⟨w.heap.size+1+1,0,none⟩=false:=by simp[World.frozen?,t2]
  have k4:W.cell? ⟨b,0,none⟩=some (.map (some d)):=by simp[World.cell?,tW]
  have k5:W.cell? ⟨Bx,0,none⟩=some (.string y1):=by simp[World.cell?,fh]
  have k6:W.cell? ⟨Bx,1,none⟩=some (.string y2):=by simp[World.cell?,fh]
  have l1:=zdu tR y1;have l2:=zdu tR y2;obtain⟨aW,HP,T2⟩:=yH3 eO hp t2;clear t0 t1 t2 tW tR hp;have KT:∀W:World,Sem.run Tryz.prog (Instr.index 122 (.agg #[.string y1,.string y2]) (.int .i64 0)) W=.ok (.string y1) W:=fun W=>by kernel_rfl
  have KU:∀W:World,Sem.run Tryz.prog (Instr.index 122 (.agg #[.string y1,.string y2]) (.int .i64 1)) W=.ok (.string y2) W:=fun W=>by kernel_rfl
  gi_wp2
  gi_loopw [18] (fun i wr=>∃k:Nat,k<=2/\i=.int .i64 k/\wr=W/\Hid ((0<k->zae y1 x=false)/\(1<k->zae y2 x=false))) (fun i _=>2-(intOf i).toNat)
  case atStart=>exact⟨0,by omega,rfl,rfl,⟨by omega,by omega⟩⟩
  case round=>
   obtain⟨k,hk,rfl,rfl,hs⟩:=hrel;obtain rfl|rfl|rfl:k=0\/k=1\/k=2:=by omega
   ·rw[show((0:Nat):Int)=0 from rfl];by_cases h1:y1.toList=x.toList
    ·have aU:(y1.toList==x.toList)=true:=McP;have hm:hasN (y1,y2) x=true:=by simp[hasN,zee h1]
     have ho:zeR (y1,y2) x=y2:=by simp[zeR,zee h1]
     obtain⟨HM,HO⟩:=yH2 hm ho;clear hm ho;cases hd:zaM s y2
     ·rw[hd]at l2;gi_wp2
      have g2:=Boxed.set (.string y2) T2.o;have HD:=zHi hd;have bM:∀i,SpIx s x w .ret (pre++[(i,y1,y2)]) (wr.setCell ⟨w.heap.size+1+1,0,none⟩ (.string y2)):=fun i=>⟨⟨rfl,pre.map Prod.snd,(y1,y2),by simp,HP.o,HM.o,by rw[HO.o,HD.o];exact g2⟩,zaL (aO.trans (aW.o.mono Mcm)) Mcr _⟩
      exact Maf
     ·rw[hd]at l2;exact MT
    ·have js:(y1.toList==x.toList)=false:=McP;have HN:Hid ((0<1->zae y1 x=false)/\(1<1->zae y2 x=false)):=⟨fun _=>ze4 h1,by omega⟩
     gi_wp2
     exact⟨⟨1,by omega,rfl,trivial,HN⟩,by simp[intOf]⟩
   ·rw[show((1:Nat):Int)=1 from rfl];by_cases h2:y2.toList=x.toList
    ·have js:(y2.toList==x.toList)=true:=Mee;have hm:hasN (y1,y2) x=true:=by simp[hasN,zee h2]
     have ho:zeR (y1,y2) x=y1:=by simp[zeR,hs.o.1 Mcm]
     obtain⟨HM,HO⟩:=yH2 hm ho;clear hm ho;cases hd:zaM s y1
     ·rw[hd]at l1;gi_wp2
      have g2:=Boxed.set (.string y1) T2.o;have HD:=zHi hd;have bM:∀i,SpIx s x w .ret (pre++[(i,y1,y2)]) (wr.setCell ⟨w.heap.size+1+1,0,none⟩ (.string y1)):=fun i=>⟨⟨rfl,pre.map Prod.snd,(y1,y2),by simp,HP.o,HM.o,by rw[HO.o,HD.o];exact g2⟩,zaL (aO.trans (aW.o.mono Mcm)) Mcr _⟩
      exact Maf
     ·rw[hd]at l1;exact MT
    ·have js:(y2.toList==x.toList)=false:=Mee;have HN:Hid ((0<2->zae y1 x=false)/\(1<2->zae y2 x=false)):=⟨fun _=>hs.o.1 Mcm,fun _=>ze4 h2⟩
     gi_wp2
     exact⟨⟨2,by omega,rfl,trivial,HN⟩,by simp[intOf]⟩
   ·rw[show((2:Nat):Int)=2 from rfl];have hn:hasN (y1,y2) x=false:=by simp[hasN,hs.o.1 Mcm,hs.o.2 Mcm]
    have HN:=zHi hn;clear hn;gi_wp2
    exact⟨KeepsFrom.refl _ _,Below.refl _ _,fun m hm=>by
     rw[List.map_append]at hm;rcases List.mem_append.1 hm with hm|hm
     ·exact HP.o m hm
     ·simp only[List.map_cons,List.map_nil,List.mem_singleton]at hm
      rw[hm];exact HN.o,aW.o⟩
 case done=>
  rintro D ys W hD rfl ⟨hp,eO⟩ hK;have t2:=(eO.block (w.heap.size+1+1) Mcm).trans S2.o;have c2':W.cell? ⟨w.heap.size+1+1,0,none⟩=some (.string ⟨#[]⟩):=by simp[World.cell?,t2]
  have f2':W.frozen? ⟨w.heap.size+1+1,0,none⟩=false:=by simp[World.frozen?,t2]
  have HY:Hid (zaK s x=⟨#[]⟩):=by
   show _=_;rw[zo5]at hp;unfold zaK;rw[ziw hp];simp
  obtain⟨HK,T2⟩:=yH2 hK t2;clear hK t2 hp;gi_wp2
  have g2:=Boxed.set (.string ⟨#[]⟩) T2.o;have Js:(W.setCell ⟨w.heap.size+1+1,0,none⟩ (.string ⟨#[]⟩)).heap[D]?=some (.deferred (some [])):=(heap_setCell_other W ⟨w.heap.size+1+1,0,none⟩ _ _ Mcr).trans HK.o
  refine ze9 (base:=w.heap.size) [D] _ Mcp (fun D' ry=>by
   have:D'=D:=by simpa using ry
   subst this
   exact⟨by omega,Js⟩) fun w' f9 aJ=>⟨.string ⟨#[]⟩,zlm rfl _ _ (w.heap.size+1+1) _ rfl (by simp[World.cell?,aJ _ _ _ _ g2]),?_⟩
  exact Ret.of (by rw[HY.o]) ((zaL (aO.trans (eO.mono Mcm)) Mcr _).trans f9)
 case stop=>
  rintro D cc pre W hD sO ⟨⟨rfl,a,m,h2,h3,h4,h5⟩,eO⟩ hK;have HY:Hid (zaK s x=if zaM s (zeR m x)then⟨#[]⟩else zeR m x):=by
   show _=_;obtain⟨k,hk,rfl⟩:=sO;rw[zmF _ _ hk]at h2;have e:s.marriages.reverse=a++m::s.marriages.reverse.drop k:=by
    have:=(List.take_append_drop k s.marriages.reverse).symm;rw[h2]at this;simpa using this
   unfold zaK;rw[e,zix h4 h3]
  obtain⟨HK,G2⟩:=yH2 hK h5;clear hK h5 h4 h3 h2;gi_wp2
  refine ze9 (base:=w.heap.size) [D] _ Mcp (fun D' ry=>by
   have:D'=D:=by simpa using ry
   subst this
   exact⟨by omega,HK.o⟩) fun w' f9 aJ=>⟨.string (if zaM s (zeR m x)then⟨#[]⟩else zeR m x),zlm rfl _ _ (w.heap.size+1+1) _ rfl (by simp[World.cell?,aJ _ _ _ _ G2.o]),?_⟩
  exact Ret.of (by rw[HY.o]) (eO.trans f9)
theorem zj9(base b:Nat)(s:St)(x:ByteArray)(w:World)(hW:PeoAt base w b s)(hl:s.marriages.length<=100000):
 Calls Tryz.prog 95 #[.pointer (some ⟨b,0,none⟩),.string x] w (Ret w (.string (zaK s x))):=callsIn_wide.1 (spouse_in base b s x w hW hl)
