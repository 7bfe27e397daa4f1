import Derived.Test.YtogklihlgindkaaGreatDoorX0
import Derived.Test.YtogklihlgindkaaGreatDoorN3
set_option linter.all false
set_option maxRecDepth 100000
set_option maxHeartbeats 4000000
namespace Go.Proofs.YtogklihlgindkaaGreatDoor
open Go.RowKit
attribute [local go_sem] World.cell?_alloc_mark zaf za3 zam za6 zat zau zav zaw zax zay zaz
section
def OwnS{α:Type}(W:World)(base:Nat)(e:TypeId)(size:Nat)(f:α->List Value)(v:Value)(xs:List α):Prop:=
 (v=.slice none 0 0/\xs=[])\/∃g o cap cur,v=.slice (some ⟨g,o,none⟩) xs.length cap/\base<=g/\W.heap[g]?=some (.cells cur e (0,0))/\xs.length<=cap/\cap<=maxLen/\o+cap*size<=cur.size/\∀j u,(xs.flatMap f)[j]?=some u->cur[o+j]?=some u
def za4:Value->Option Nat
 | .slice (some a) _ _=>some a.block
 |_=>none
section
variable {α:Type} {W:World} {base:Nat} {e:TypeId} {size:Nat} {f:α->List Value} {v:Value} {xs:List α}
def OwnS.nil:OwnS W base e size f (.slice none 0 0) ([]:List α):=.inl ⟨rfl,rfl⟩
def OwnS.sl(ag:∀x,(f x).length=size)(h:OwnS W base e size f v xs):∃A c,v=.slice A xs.length c/\Sl W size f A xs/\xs.length<=c:=by
 rcases h with⟨rfl,rfl⟩|⟨g,o,cap,cur,rfl,hb,hg,hc,_,_,hx⟩
 ·exact⟨none,0,rfl,Sl.nil,Qc⟩
 ·refine⟨_,cap,rfl,λ_=>⟨g,o,rfl,(Array.getElem?_eq_some_iff.1 hg).1,λk x hk j u hu=>?_⟩,hc⟩;have:=hx (k*size+j) u (zeU f size ag xs k x hk j u hu);simp only[World.cell?,hg,Nat.add_assoc];exact this
def OwnS.of_own(ag:∀x,(f x).length=size)(h:W.ownsRow base e size v xs.length (xs.flatMap f)):OwnS W base e size f v xs:=by
 rcases h.2 with⟨rfl,h0⟩|⟨g,cap,cur,rfl,hb,hg,hc,hm,hs,ht⟩
 ·exact .inl ⟨rfl,List.eq_nil_of_length_eq_zero h0⟩
 ·refine .inr ⟨g,0,cap,cur,rfl,hb,hg,hc,hm,by omega,λj u hj=>?_⟩;rw[Nat.zero_add];rw[<-ht,List.getElem?_take]at hj;split at hj
  ·simpa using hj
  ·cases hj
def OwnS.grown{w':World}{row:Option Nat}(h:OwnS W base e size f v xs)(hg:W.grownBy w' row)(ai:za4 v=none\/za4 v≠row):OwnS w' base e size f v xs:=by
 rcases h with h|⟨g,o,cap,cur,rfl,hb,hh,rest⟩
 ·exact .inl h
 ·refine .inr ⟨g,o,cap,cur,rfl,hb,?_,rest⟩;rw[hg.block g (Array.getElem?_eq_some_iff.1 hh).1 (by simpa[za4]using ai)];exact hh
def OwnS.keep{w':World}{n:Nat}(h:OwnS W base e size f v xs)(hB:Below n W w')(hn:W.heap.size<=n:=by first|exact Qc|omega):OwnS w' base e size f v xs:=by
 rcases h with h|⟨g,o,cap,cur,rfl,hb,hh,rest⟩
 ·exact .inl h
 ·exact .inr ⟨g,o,cap,cur,rfl,hb,(hB.block g (Nat.lt_of_lt_of_le (Array.getElem?_eq_some_iff.1 hh).1 hn)).trans hh,rest⟩
def OwnS.ge(h:OwnS W base e size f v xs):∀g,za4 v=some g->base<=g/\g<W.heap.size:=by
 rcases h with⟨rfl,_⟩|⟨g,o,cap,cur,rfl,hb,hh,rest⟩
 ·intro g hg;cases hg
 ·intro k hk;simp only[za4,Option.some.injEq]at hk;subst hk;exact⟨hb,(Array.getElem?_eq_some_iff.1 hh).1⟩
def OwnS.tail(ag:∀x,(f x).length=size){x:α}{g o n cap:Nat}(h:OwnS W base e size f (.slice (some ⟨g,o,none⟩) n cap) (x::xs)):n=xs.length+1/\1<=cap/\OwnS W base e size f (.slice (some ⟨g,o+size,none⟩) xs.length (cap-1)) xs/\∀j u,(f x)[j]?=some u->W.cell? ⟨g,o+j,none⟩=some u:=by
 rcases h with⟨h,_⟩|⟨g',o',cap',cur,h,hb,hh,hc,hm,hs,hx⟩
 ·cases h
 ·simp only[Value.slice.injEq,Option.some.injEq,Addr.mk.injEq,and_true]at h;obtain⟨⟨rfl,rfl⟩,rfl,rfl⟩:=h;simp only[List.length_cons]at hc;have h1:1<=cap:=by omega
  refine⟨rfl,h1,.inr ⟨g,o+size,cap-1,cur,rfl,hb,hh,by omega,by omega,?_,λj u hj=>?_⟩,λj u hj=>?_⟩
  ·have:cap*size=(cap-1)*size+size:=by rw[<-Nat.succ_mul];congr 1;omega
   omega
  ·have:=hx (size+j) u (by rw[List.flatMap_cons,List.getElem?_append_right (by rw[ag];omega),ag,Nat.add_sub_cancel_left];exact hj);rw[Nat.add_assoc];exact this
  ·have:=hx j u (by rw[List.flatMap_cons,List.getElem?_append_left (List.getElem?_eq_some_iff.1 hj).1];exact hj);simp only[World.cell?,hh];exact this
end
def zc6(w:World)(row:Option Nat):w.grownBy w row:=⟨rfl,rfl,rfl,Qc,λ_ _ _=>rfl⟩
def zbu(g:Nat):∀(vs:List Value) (o:Nat) (w:World),w.grownBy (w.setCells g o vs) (some g)
 | [],_,w=>zc6 w _
 |v::r,o,w=>zbm (za1 w g o v) (zbu g r (o+1) _)
def zfJ(g:Nat){e:TypeId}:∀(vs:List Value) (o:Nat) (w:World) (cur:Array Value),w.heap[g]?=some (.cells cur e (0,0))->o+vs.length<=cur.size->
 ∃cur',(w.setCells g o vs).heap[g]?=some (.cells cur' e (0,0))/\cur'.size=cur.size/\(∀j,j<o->cur'[j]?=cur[j]?)/\∀j u,vs[j]?=some u->cur'[o+j]?=some u
 | [],o,w,cur,hg,_=>⟨cur,hg,rfl,λ_ _=>rfl,λj u h=>by simp at h⟩
 |v::r,o,w,cur,hg,hl=>by
  obtain⟨cur',h1,h2,h3,h4⟩:=zfJ g r (o+1) (w.setCell ⟨g,o,none⟩ v) (cur.setIfInBounds o v) (heap_setCell_same w g o cur e v hg) (by simp at hl⊢;omega);refine⟨cur',h1,by simpa using h2,λj hj=>?_,λj u hu=>?_⟩
  ·rw[h3 j (by omega),Array.getElem?_setIfInBounds_ne (by omega)]
  ·cases j with
   |zero=>
    simp only[List.getElem?_cons_zero,Option.some.injEq]at hu;subst hu;rw[Nat.add_zero,h3 o (by omega)];exact Array.getElem?_setIfInBounds_self_of_lt (by simp at hl;omega)
   |succ j=>
    have:=h4 j u (by simpa using hu);rw[show o+(j+1)=o+1+j by omega];exact this
section
variable {P:Program} {α:Type} {f:α->List Value} {t e:TypeId} {size bytes:Nat}
def zeX(T:ElTy P t e size bytes)(ag:∀x,(f x).length=size)(aU:∀x,∀u∈f x,u.oneCell'=true){w:World}{base ty n m c:Nat}{v:Value}{xs ys:List α}(aa:OwnS w base e size f v xs)(hn:xs.length=n)
 {A:Option Addr}(hm:m=ys.length)(hS:Sl w size f A ys)(fI:n+m<=maxLen)(aD:(n+m)*bytes<=140737488355328)(aC:base<=w.heap.size):
 ∃v' w',(Builtin.append_ #[t,t] ty #[v,.slice A m c]).run P w=.ok v' w'/\OwnS w' base e size f v' (xs++ys)/\w.grownBy w' (za4 v)/\(∀g,za4 v'=some g->za4 v=some g\/w.heap.size<=g):=by
 subst hm hn;have lP:=λzs:List α=>ze2 f size ag zs
 rcases aa with⟨rfl,rfl⟩|⟨g,o,cap,cur,rfl,io,hg,hc,ir,aY,hx⟩
 ·obtain⟨v',w',h1,h2,h3,h4⟩:=zgh (P:=P) (ty:=ty) (c:=c) T ag aU (base:=base) (World.ownsRow_nil w base e size) (n:=0) rfl hS (by simpa using fI) (by simpa using aD) aC;refine⟨v',w',h1,OwnS.of_own ag (by simpa using h2),h3,?_⟩;rcases h2.2 with⟨rfl,_⟩|⟨g,cap,cur,rfl,_⟩
  ·intro g hg;cases hg
  ·intro k hk;rcases h4 with h4|h4
   ·cases h4
   ·simp only[za4,Value.ownBlock,Option.some.injEq]at hk h4;exact .inr (by omega)
 ·have nG:∀ys:List α,(xs++ys).flatMap f=xs.flatMap f++ys.flatMap f:=λys=>by simp
  cases A with
  |none=>
   have h0:ys=[]:=by
    cases ys with
    |nil=>rfl
    |cons y ys=>obtain⟨b,off,h,_⟩:=hS (by simp);cases h
   subst h0;obtain⟨i,z,hi,hz,hs,hb,eI⟩:=T.hi;have ht:=T.ht;refine⟨_,w,?_,by rw[List.append_nil];exact .inr ⟨g,o,cap,cur,rfl,io,hg,hc,ir,aY,hx⟩,zc6 w _,λg hg=> .inl hg⟩;simp[Builtin.append_,run_underlying ht,sizeOf,typeInfo,hi,Builtin.lenOf,Builtin.firstCells,hc,storeCells]
  |some ad=>
   obtain⟨i,z,hi,hz,hs,hb,eI⟩:=T.hi;have qq:∀j u,(ys.flatMap f)[j]?=some u->w.cell? (ad.add j)=some u:=λj u hj=>by
    obtain⟨k,x,q,h1,h2,h3⟩:=zhH f size ag ys j u hj;have hk:k<ys.length:=(List.getElem?_eq_some_iff.1 h1).1;obtain⟨b,off,hA,_,ah⟩:=hS (by omega);have rP:ad=⟨b,off,none⟩:=by simpa using hA
    subst rP;exact sl_flat ag ah j u hj
   have yJ:∀u∈ys.flatMap f,u.oneCell'=true:=λu hu=>by
    obtain⟨x,_,hx⟩:=List.mem_flatMap.1 hu;exact aU x u hx
   by_cases hr:xs.length+ys.length<=cap
   ·have cE:o+xs.length*size+(ys.flatMap f).length<=cur.size:=by
     rw[lP,Nat.add_assoc,<-Nat.add_mul];exact Nat.le_trans (Nat.add_le_add_left (Nat.mul_le_mul_right _ hr) _) aY
    have hrun:=run_append_room_cells (P:=P) w t ty e i T.ht hi g o xs.length cap ad ys.length c (ys.flatMap f) (by rw[lP,hs]) qq yJ hr
     (λj hj=>by rw[hs];simp[World.cell?,hg];omega) (λj hj=>by simp[World.frozen?,hg])
    rw[hs]at hrun;obtain⟨cur',h1,h2,h3,h4⟩:=zfJ g (ys.flatMap f) (o+xs.length*size) w cur hg cE;refine⟨_,_,hrun,.inr ⟨g,o,cap,cur',by rw[List.length_append],io,h1,by rw[List.length_append];exact hr,ir,by rw[h2];exact aY,λj u hj=>?_⟩,zbu g _ _ _,λg hg=> .inl hg⟩;rw[nG]at hj;by_cases cO:j<(xs.flatMap f).length
    ·rw[List.getElem?_append_left cO]at hj;rw[h3 _ (by rw[lP]at cO;omega)];exact hx j u hj
    ·rw[List.getElem?_append_right (by omega)]at hj;have:=h4 _ u hj;rw[lP]at this cO;rw[show o+j=o+xs.length*size+(j-xs.length*size) by omega];exact this
   ·obtain⟨v',w',hrun,h1,h2⟩:=run_append_arg_grows (P:=P) w t ty e i z size bytes T.ht hi hz hs hb eI T.hsz ⟨g,o,none⟩ xs.length cap (xs.flatMap f) (lP xs)
     (λj u hj=>by
       have:=hx j u hj;rw[Addr.add_lit];simp only[World.cell?,hg]
       exact this) ad ys.length c (ys.flatMap f) (lP ys) qq (by omega) fI aD
    have h3:OwnS w' w.heap.size e size f v' (xs++ys):=OwnS.of_own ag (by rw[List.length_append,nG];exact h1);refine⟨v',w',hrun,?_,⟨h2.os,h2.tape,h2.output,h2.size,λk hk _=>h2.block k hk (by simp)⟩,?_⟩
    ·rcases h3 with h3|⟨g',o',cap',cur',e1,e2,e3⟩
     ·exact .inl h3
     ·exact .inr ⟨g',o',cap',cur',e1,Nat.le_trans aC e2,e3⟩
    ·intro k hk;rcases h3 with⟨rfl,_⟩|⟨g',o',cap',cur',rfl,e2,e3⟩
     ·cases hk
     ·simp only[za4,Option.some.injEq]at hk;exact .inr (by omega)
def zii{o:Oper}{a:Act}{K:Act->World->Prop}{Q:Exit->Act->World->Prop}(s x:Operand)(ho:o.op=.call {callee:=.builtin .append,args:= #[s,x],argTypes:= #[t,t]})
 (T:ElTy P t e size bytes)(ag:∀x,(f x).length=size)(aU:∀x,∀u∈f x,u.oneCell'=true){w:World}{base n m c:Nat}{v:Value}{xs ys:List α}(hs:a.eval s=v)(aa:OwnS w base e size f v xs)(hn:xs.length=n)
 {A:Option Addr}(hx:a.eval x=.slice A m c)(hm:m=ys.length)(hS:Sl w size f A ys)(fI:n+m<=maxLen)(aD:(n+m)*bytes<=140737488355328)(aC:base<=w.heap.size)
 (h:∀v' w',OwnS w' base e size f v' (xs++ys)->w.grownBy w' (za4 v)->(∀g,za4 v'=some g->za4 v=some g\/w.heap.size<=g)->K (a.put o.dst v') w'):o.wp P a w K Q:=by
 obtain⟨v',w',hrun,h2,h3,h4⟩:=zeX (ty:=o.type) (c:=c) T ag aU aa hn hm hS fI aD aC;unfold Oper.wp execOp;simp only[ho,resolve,invoke,builtin,Sem.run_bind,Sem.run_pure,Result.andThen_ok,List.map_toArray,List.map_cons,List.map_nil,hs,hx,hrun];exact h v' w' h2 h3 h4
def zar{ops:Array Oper}{rest:List Oper}{o:Oper}{a:Act}{Q:Exit->Act->World->Prop}(bB:o.guard=none)(s x:Operand)(ho:o.op=.call {callee:=.builtin .append,args:= #[s,x],argTypes:= #[t,t]})
 (T:ElTy P t e size bytes)(ag:∀x,(f x).length=size)(aU:∀x,∀u∈f x,u.oneCell'=true){w:World}{base n m c:Nat}{v:Value}{xs ys:List α}(hs:a.eval s=v)(aa:OwnS w base e size f v xs)(hn:xs.length=n)
 {A:Option Addr}(hx:a.eval x=.slice A m c)(hm:m=ys.length)(hS:Sl w size f A ys)(fI:n+m<=maxLen)(aD:(n+m)*bytes<=140737488355328)(aC:base<=w.heap.size)
 (h:∀v' w',OwnS w' base e size f v' (xs++ys)->w.grownBy w' (za4 v)->(∀g,za4 v'=some g->za4 v=some g\/w.heap.size<=g)->wpList P ops Q rest (a.put o.dst v') w'):wpList P ops Q (o::rest) a w:=
 wpList_plain bB λ_ hK=>zii s x ho T ag aU hs aa hn hx hm hS fI aD aC λv' w' h2 h3 h4=>hK _ _ (h v' w' h2 h3 h4)
def zap{ops:Array Oper}{o:Oper}{a:Act}{K:Act->World->Prop}{Q:Exit->Act->World->Prop}{E:Prop}(bB:o.guard=none)(s x:Operand)(ho:o.op=.call {callee:=.builtin .append,args:= #[s,x],argTypes:= #[t,t]})
 (T:ElTy P t e size bytes)(ag:∀x,(f x).length=size)(aU:∀x,∀u∈f x,u.oneCell'=true){w:World}{base n m c:Nat}{v:Value}{xs ys:List α}(hs:a.eval s=v)(aa:OwnS w base e size f v xs)(hn:xs.length=n)
 {A:Option Addr}(hx:a.eval x=.slice A m c)(hm:m=ys.length)(hS:Sl w size f A ys)(fI:n+m<=maxLen)(aD:(n+m)*bytes<=140737488355328)(aC:base<=w.heap.size)
 (h:∀v' w',OwnS w' base e size f v' (xs++ys)->w.grownBy w' (za4 v)->(∀g,za4 v'=some g->za4 v=some g\/w.heap.size<=g)->K (a.put o.dst v') w'):
 if Region.wanted o (yielded ops a.tmps)=true then Oper.wp P o a w K Q else E:=by
 have hw:Region.wanted o (yielded ops a.tmps)=true:=by simp[Region.wanted,bB]
 rw[if_pos hw];exact zii s x ho T ag aU hs aa hn hx hm hS fI aD aC h
end
def SlW{α:Type}(W:World)(size:Nat)(R:World->α->List Value->Prop)(A:Option Addr)(xs:List α):Prop:=
 0<xs.length->∃b off,A=some ⟨b,off,none⟩/\b<W.heap.size/\∀k (x:α),xs[k]?=some x->∃cs,R W x cs/\∀j u,cs[j]?=some u->W.cell? ⟨b,off+k*size+j,none⟩=some u
def Keeps{α:Type}(R:World->α->List Value->Prop):Prop:= ∀W W' x cs n,R W x cs->Below n W W'->W.heap.size<=n->R W' x cs
section
variable {α:Type} {w W:World} {size:Nat} {R:World->α->List Value->Prop} {A:Option Addr} {xs:List α}
def SlW.keep(hk:Keeps R)(h:SlW w size R A xs){n:Nat}(hb:Below n w W)(hn:w.heap.size<=n:=by first|exact Qc|omega):SlW W size R A xs:=λhl=>by
 obtain⟨b,off,hA,ae,hc⟩:=h hl;refine⟨b,off,hA,Nat.lt_of_lt_of_le ae hb.size,λk x hx=>?_⟩;obtain⟨cs,h1,h2⟩:=hc k x hx;exact⟨cs,hk _ _ _ _ _ h1 hb hn,λj u hu=>(hb.cell (p:=⟨b,_,none⟩) (Nat.lt_of_lt_of_le ae hn)).trans (h2 j u hu)⟩
def SlW.at{k:Nat}(h:SlW w size R A xs)(hk:k<xs.length):∃b off cs,A=some ⟨b,off,none⟩/\b<w.heap.size/\R w xs[k] cs/\∀j u,cs[j]?=some u->w.cell? ⟨b,off+k*size+j,none⟩=some u:=by
 obtain⟨b,off,hA,ae,hc⟩:=h (by omega);obtain⟨cs,h1,h2⟩:=hc k _ (List.getElem?_eq_getElem hk);exact⟨b,off,cs,hA,ae,h1,h2⟩
def SlW.nil:SlW w size R A ([]:List α):=λh=>absurd h (by simp)
def SlW.take(h:SlW w size R A xs)(k:Nat):SlW w size R A (xs.take k):=λhl=>by
 obtain⟨b,off,hA,ae,hc⟩:=h (by simp at hl;omega);refine⟨b,off,hA,ae,λj x hx=>hc j x ?_⟩;rw[List.getElem?_take]at hx;split at hx
 ·exact hx
 ·cases hx
end
def zfG(W:World)(d:Deed)(cs:List Value):Prop:= ∃B c,d.to.length<=c/\cs=[.int .i64 d.kind,.int .i64 d.day,.string d.place,.string d.frm,.slice B d.to.length c,.int .i64 d.cls,.int .i64 d.years]/\Sl W 3 RPart.cells B d.to
def zbS:Keeps zfG:=by
 rintro W W' d cs n ⟨B,c,h0,h1,h2⟩ hB hn;exact⟨B,c,h0,h1,h2.keep hB hn⟩
def zij(W:World)(g:Grave)(cs:List Value):Prop:= ∃H hc D dc,cs=[.string g.place,.int .i64 g.cls,.int .i64 g.fin,.slice H g.holders.length hc,.slice D g.died.length dc]/\Sl W 3 zaa H g.holders/\Sl W 1 (λs:ByteArray=>[.string s]) D g.died
def zfP:Keeps zij:=by
 rintro W W' g cs n ⟨H,hc,D,dc,h1,h2,h3⟩ hB hn;exact⟨H,hc,D,dc,h1,h2.keep hB hn,h3.keep hB hn⟩
def zaW(p:ByteArray×ByteArray):List Value:=[.string p.1,.string p.2]
structure RightsIn (w:World) (ls:List Law) (ds:List Deed) (A:Option Addr) (n nc:Nat) (B:Option Addr) (m mc:Nat):Prop where
 ln:n=ls.length
 dn:m=ds.length
 lc:n<=nc
 dc:m<=mc
 laws:Sl w 4 Law.cells A ls
 deeds:SlW w 7 zfG B ds
def RightsIn.keep{w W:World}{ls:List Law}{ds:List Deed}{A B:Option Addr}{n nc m mc k:Nat}(h:RightsIn w ls ds A n nc B m mc)(hB:Below k w W)(hk:w.heap.size<=k:=by first|exact Qc|omega):RightsIn W ls ds A n nc B m mc:=
 ⟨h.ln,h.dn,h.lc,h.dc,h.laws.keep hB hk,h.deeds.keep zbS hB hk⟩
end
def zbj(n lo hi:Int)(w:World):Calls Tryz.prog 51 #[.int .i64 n,.int .i64 lo,.int .i64 hi] w (Ret0 w (.bool (inR n lo hi))):=by
 go_enter Tryz.func51,Tryz.ntmps51
 go_wp2_with fail
 all_goals go_ret
 all_goals exact⟨by first|(simp_all[inR];done)|(simp_all[inR];omega),rfl⟩
def zc7(n:Int)(w:World):Calls Tryz.prog 22 #[.int .i64 n] w (Ret0 w (.bool (zba n))):=by
 go_enter Tryz.func22,Tryz.ntmps22
 go_wp2_with (go_at_call 51;refine(zbj _ _ _ _).mono ?_;rintro e wq ⟨rfl,rfl⟩)
 go_ret
 exact⟨rfl,rfl⟩
def zbZ(s:ByteArray)(w:World)(hs:s.size<=100000):Calls Tryz.prog 44 #[.string s] w (Ret0 w (.bool (zaU s))):=by
 go_enter Tryz.func44,Tryz.ntmps44
 go_wp2_with fail
 go_loop [7] (λi=>∃k:Nat,k<=s.size/\i=.int .i64 k/\nmGo (zds s) 0=nmGo ((zds s).drop k) k) (λi=>s.size-(intOf i).toNat)
 case atStart=>exact⟨0,Nat.zero_le _,rfl,rfl⟩
 case round=>
  obtain⟨k,hk,rfl,hf⟩:=hrel;by_cases ae:k<s.size
  ·rw[zig s k ae,show s.data[k]=s[k]from rfl]at hf;have HF:=zHi hf;clear hf;have HL:=zHi ae;rcases Nat.eq_zero_or_pos k with rfl|aR
   ·go_wp2_with fail
    all_goals first
     |(go_round
       case rel=>exact⟨1,by have:=HL.o;omega,rfl,by rw[HF.o,nmGo,if_neg (by go_tidy;simp[zda]at*;omega)]⟩
       case measure=>have:=HL.o;simp[intOf];omega)
     |(go_ret
       refine⟨congrArg Ending.returned (zaT ?_),rfl⟩;rw[zaU,HF.o,nmGo,if_pos (by go_tidy;simp[zda]at*;omega)]
       rfl)
   ·have hz:((k:Int)==0)=false:=by simp;omega
    have jp:¬((k:Int)=0):=by omega
    go_wp2_with fail
    all_goals first
     |(go_round
       case rel=>exact⟨k+1,by have:=HL.o;omega,by go_num,by rw[HF.o,nmGo,if_neg (by go_tidy;simp[zda]at*;omega)]⟩
       case measure=>have:=HL.o;simp[intOf];omega)
     |(go_ret
       refine⟨congrArg Ending.returned (zaT ?_),rfl⟩;rw[zaU,HF.o,nmGo,if_pos (by go_tidy;simp[zda]at*;omega)]
       rfl)
  ·rw[List.drop_eq_nil_of_le (by rw[zgQ];omega)]at hf;go_wp2_with fail
   all_goals go_ret
   all_goals refine⟨congrArg Ending.returned (zaT ?_),rfl⟩
   all_goals simp[zaU,hf,nmGo, *]
def znY(x y:Int):Int.gcd y (x.tmod y)=Int.gcd x y:=by
 rw[Int.gcd,Int.gcd,Int.natAbs_tmod,Nat.gcd_comm,<-Nat.gcd_rec,Nat.gcd_comm]
def tmod_lt(x y:Int)(h:y≠0):(x.tmod y).natAbs<y.natAbs:=by
 rw[Int.natAbs_tmod];exact Nat.mod_lt _ (by omega)
def zkr(a b:Int)(w:World)(ha:a.natAbs<=4611686018427387904)(hb:b.natAbs<=4611686018427387904):Calls Tryz.prog 99 #[.int .i64 a,.int .i64 b] w (Ret w (.int .i64 (Int.gcd a b))):=by
 go_enter Tryz.func99,Tryz.ntmps99
 go_wp2_with fail
 go_loopw [0,1] (λx y wr=>∃p q:Int,x=.int .i64 p/\y=.int .i64 q/\p.natAbs<=4611686018427387904/\q.natAbs<=4611686018427387904/\Int.gcd a b=Int.gcd p q/\∃z,wr=w.ext z) (λ_ y _=>(intOf y).natAbs)
 case atStart=>exact⟨a,b,rfl,rfl,ha,hb,rfl,zaP Qb⟩
 case round=>
  obtain⟨p,q,rfl,rfl,hp,hq,hg,z,rfl⟩:=hrel;by_cases hz:q=0
  ·subst hz;go_wp2_with fail
   all_goals go_ret
   all_goals exact Ret.of (zb7 (by omega)) Bw
  ·have eT:(q==0)=false:=by simp[hz]
   have hm:=tmod_lt p q hz;obtain⟨hG,HG⟩:=yH2 (znY p q) hg;clear hg;have uO:IntKind.i64.wrap (p.tmod q)=p.tmod q:=IntWalk.i64_in _ (by omega);go_wp2_with fail
   go_quiet (fail)
   go_wp2_with fail
   all_goals(first
    |(go_round
      case rel=>exact⟨q,p.tmod q,rfl,rfl,hq,by omega,by rw[HG.o,hG.o],zaP Bw⟩
      case measure=>simp only[intOf];omega))
