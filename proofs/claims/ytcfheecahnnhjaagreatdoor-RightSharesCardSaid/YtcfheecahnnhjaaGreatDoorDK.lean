import Derived.Test.YtcfheecahnnhjaaGreatDoorChecked
import Derived.LaidMore
import Derived.Lay
import Derived.Stop.Joined
import Derived.Stop.LaidErr
import Derived.Test.YtcfheecahnnhjaaGreatDoorWX
set_option linter.all false
set_option maxRecDepth 100000
set_option maxHeartbeats 4000000
namespace Go.Proofs.YtcfheecahnnhjaaGreatDoor
open Go.RowKit
attribute [local go_sem] World.cell?_alloc_mark zag za4 zar zaB zaw zax zay zaz za0 za1 za2
attribute [local go_sem] zas zad
section
open Go.ChangeShapes Go.WideShapes Go.ChangeAt Go.Deep
theorem znt{α:Type}{Q:Nat->α->Prop}:∀n:Nat,(∀i,i<n->∃x,Q i x)->∃l:List α,l.length=n/\∀(i:Nat) (x:α),l[i]?=some x->Q i x
 |0,_=>⟨[],rfl,fun i x h=>by simp at h⟩
 |n+1,h=>by
  obtain⟨l,hl,hq⟩:=znt n (fun i hi=>h i Mcu);obtain⟨x,hx⟩:=h n Mcu;refine⟨l++[x],by simp[hl],fun i y hy=>?_⟩;by_cases hi:i<n
  ·rw[List.getElem?_append_left Mcu]at hy;exact hq i y hy
  ·by_cases he:i=n
   ·subst he;rw[List.getElem?_append_right Mcu,hl]at hy;simp at hy;subst hy;exact hx
   ·rw[List.getElem?_append_right Mcu]at hy;have:i-l.length≠0:=by omega
    obtain⟨m,hm⟩:=Nat.exists_eq_succ_of_ne_zero this;rw[hm]at hy;simp at hy
section
variable {H:Type} {enc:TypeId×Value->H} {P:Program} {w:World} {base:Nat} {spare:Nat->Bool} {held:Bool}
theorem zka{α:Type}{f:α->List Value}{size:Nat}(hsz:0<size)(ag:∀x,(f x).length=size){t e:TypeId}{fuel:Nat}{cs:List Value}{x:DataW H×List MemPlace}(ht:P.underlying t=some (.slice e))(hC:P.cellsOf e=size)
 (mA:∀(n:Nat) (cs:List Value) (y:DataW H×List MemPlace),DataW.trod enc P w base spare held n e cs=some y->∃s:α,cs=f s)(h:DataW.trod enc P w base spare held fuel t cs=some x):
 ∃(A:Option Addr) (n c:Nat) (xs:List α),cs=[.slice A n c]/\n=xs.length/\Sl w size f A xs/\xs.length<=c/\c<=maxLen:=by
 rcases open_slice ht h with⟨rfl,_⟩|⟨a,len,cap,m,n,D,Pl,rfl,_,hl,hm,ct,_,hi⟩
 ·exact⟨none,0,0,[],rfl,rfl,Sl.nil,Nat.le_refl _,Nat.zero_le _⟩
 ·have bP:len<=m:=by rw[ct];split<;>omega
  obtain⟨l,fH,hq⟩:=znt (Q:=fun i (s:α)=>∀j,j<size->w.cell? ((a.add (i*size)).add j)=(f s)[j]?) len (fun i eF=>by
   obtain⟨cs',hc,hr⟩:=hi i Mcu;obtain⟨s,rfl⟩:=mA _ _ _ hr;rw[hC]at hc
   exact⟨s,(World.cells?_some hc).2.2⟩)
  refine⟨some a,len,cap,l,rfl,fH.symm,fun hp=>?_,by omega,hm⟩;have h0:0<l.length:=hp;have hx:=hq 0 l[0] (List.getElem?_eq_getElem h0) 0 hsz;have hv:∃v,(f l[0])[0]?=some v:=⟨_,List.getElem?_eq_getElem (by rw[ag];exact hsz)⟩
  obtain⟨v,hv⟩:=hv;rw[hv]at hx;have cv:=World.cell?_spot hx;have dK:=World.block_lt_of_cell? _ _ hx;obtain⟨b,off,spot⟩:=a;have sY:spot=none:=by simpa[Addr.add]using cv
  subst sY;refine⟨b,off,rfl,by simpa[Addr.add]using dK,fun k y hy j u hu=>?_⟩;have hj:j<size:=by have:=(List.getElem?_eq_some_iff.1 hu).1;rw[ag]at this;exact this
  have:=hq k y hy j hj;exact MbK
end
theorem zmp{H:Type}{enc:TypeId×Value->H}{a:Assume}{C:Checked}{os:Os}{f:FuncId}{fn:Func}{s:ChangeSpec}{conds:List PathCond}{apart fresh handsOn again:Bool}{X:World->Array Value->Prop}
 (hX:∀(w w':World) (args:Array Value),w.heap=w'.heap->X w args->X w' args)
 (own:ownKnob C.prog.godebug=none)(started:os.Started)(noInit:C.prog.inits.idxOf? f=none)(Dg:C.prog.funcs[f]?=some fn)
 (witness:∃(w:World) (tape:Tape) (i:Input),w.os=os/\(w.forCall tape i).Shaped C.prog/\i.vars=[]/\Input.okWide C.prog (w.forCall tape i) .any w.heap.size f i/\
   ((s.pre enc C.prog fn conds apart (w.forCall tape i).memory i.args/\X (w.forCall tape i).memory i.args)/\sizedMet enc C.prog fn (OpenSpec.ofChange s) apart (w.forCall tape i).memory i.args)/\a.holds C.prog (lone (Frame.enter C.prog f i.args .normal) [] (w.forCall tape i)))
 (contract:∀(W:World) (base:Nat) (args:Array Value) (ds gs:List (DataW H)) (before:List MemPlace),
   (∀(j:Nat) t v,fn.params[j]?=some t->args[j]?=some v->Value.okWide C.prog W .any base t v)->
   DataW.Whole enc C.prog fn.params.toList s.vars apart W args.toList ds gs before->X W args->W.ShapedOpen C.prog->
   Calls C.prog f args W fun e W'=>∃v,e=.returned v/\s.post enc C.prog fn apart fresh handsOn again W args v W'):
 ReturnsInHanded a C os f .any (fun w args=>(s.pre enc C.prog fn conds apart w args/\X w args)/\sizedMet enc C.prog fn (OpenSpec.ofChange s) apart w args) (s.post enc C.prog fn apart fresh handsOn again):=by
 refine returnsInHanded_of_calls own started noInit witness fun w tape i _ bQ _ bv sS _=>?_
 obtain⟨_,_,_,fn',Dh,_,_,_,_,fN⟩:=bv;obtain rfl:fn'=fn:=Option.some.inj (Dh.symm.trans Dg);obtain⟨⟨⟨ds,gs,before,hw,_⟩,hx⟩,_⟩:=sS;refine(contract (w.forCall tape i) w.heap.size i.args ds gs before fN (DataW.Whole.of_heap (w':=w.forCall tape i) (by rfl) hw) (hX _ _ _ (by rfl) hx) bQ).mono fun e W' h=>?_
 obtain⟨v,rfl,hp⟩:=h;exact ChangeSpec.post_blind hp
theorem own_knob:ownKnob Tryz.prog.godebug=none:=by kernel_rfl
theorem zkT:laidOutB Tryz.prog=true:=by kernel_rfl
end
section
open Go.Shelf
theorem zjz(ls:List Law)(A:Option Addr)(n c:Nat)(w:World)(hn:n=ls.length)(hS:Sl w 4 Law.cells A ls):Calls Tryz.prog 56 #[.slice A n c] w (Ret w (.int .i64 (zaC ls))):=by
 subst hn;go_enter Tryz.func56,Tryz.ntmps56
 by_cases F5:10<ls.length
 ·exact MaV
 have hx:decide ((10:Int)<(ls.length:Int))=false:=Mcz;go_wp2_with fail
 have hT:zaC ls=zeY (ls.drop 0) (befP ls 0):=by rw[zaC,if_neg Mcz];rfl
 go_loopw [3] (fun i wr=>∃k:Nat,k<=ls.length/\i=.int .i64 k/\zaC ls=zeY (ls.drop k) (befP ls k)/\∃z,wr=w.ext z) (fun i _=>ls.length-(intOf i).toNat)
 case atStart=>exact⟨0,Nat.zero_le _,rfl,hT,zaZ (Below.refl _ _)⟩
 case round=>
  obtain⟨k,hk,rfl,hf,z,rfl⟩:=hrel;clear hT hx;by_cases ae:k<ls.length
  ·rw[List.drop_eq_getElem_cons ae,zeY]at hf;obtain⟨b,off,rfl,hb,hc⟩:=hS.at ae;have h0:w.cell? ⟨b,off+k*4,none⟩=some (.int .i64 ls[k].frm):=hc 0 _ rfl;have h1:w.cell? ⟨b,off+k*4+1,none⟩=some (.bool ls[k].stems):=hc 1 _ rfl;have h2:w.cell? ⟨b,off+k*4+2,none⟩=some (.int .i64 ls[k].num):=hc 2 _ rfl;have h3:w.cell? ⟨b,off+k*4+3,none⟩=some (.int .i64 ls[k].den):=hc 3 _ rfl;have HF:=zHi hf;have jq:(k:Int)<(ls.length:Int):=Mcu;have iC:0<k->w.cell? ⟨b,off+(k-1)*4,none⟩=some (.int .i64 (ls[k-1]' Mcu).frm):=fun aT=>by
    exact MbD
   have HP:=zHi iC;have HB:befP ls (k+1)=some ls[k].frm:=zhC ls ae;have HB:=zHi HB;clear hc hf hS iC
   go_upto_region 10 with(first
    |(go_at_call 31;refine(zcS _ _).mono ?_;intro e wq hq;rcases Ret0.bools hq with⟨rfl,⟨hb,rfl⟩|⟨hb,rfl⟩⟩<;>clear hq)
    |(go_at_call 95;refine(zh2 _ _ _).mono ?_;intro e wq hq;rcases Ret.bools hq with⟨zq,rfl,⟨hb,rfl⟩|⟨hb,rfl⟩⟩<;>clear hq))
   all_goals first
    |(go_ret
      exact Ret.of (zbB MdX) Bw)
    |skip
   rcases Nat.eq_zero_or_pos k with aT|aT
   ·have hd:decide ((k:Int)>0)=false:=Mcz;have gZ:befP ls k=none:=by rw[befP,if_pos aT]
    go_quiet (fail)
    go_wp2_with fail
    go_round
    case rel=>subst aT;exact⟨1,by omega,rfl,by rw[HF.o,HB.o];simp[zhp, *],zaZ Bw⟩
    case measure=>simp[intOf];omega
   ·have hd:decide ((k:Int)>0)=true:=Mcz;have uB:IntKind.i64.wrap ((k:Int)-1)=(k:Int)-1:=IntWalk.i64_in _ Mcu;have i8:0<=(k:Int)-1:=Mcu;have fM:((k:Int)-1).toNat=k-1:=Mcu;have bu:(k:Int)-1<(ls.length:Int):=Mcu;have hp:=HP.o aT;have aI:befP ls k=some (ls[k-1]' Mcu).frm:=by have:=zhC ls (k:=k-1) Mcu;rwa [Nat.sub_add_cancel aT]at this
    go_quiet (fail)
    go_wp2_with fail
    all_goals first
     |(go_ret
       exact Ret.of (zbB MdX) Bw)
     |(go_round
       case rel=>exact⟨k+1,by omega,by go_num,by rw[HF.o,HB.o];simp[zhp, *],zaZ Bw⟩
       case measure=>simp[intOf];omega)
  ·exact Mav
theorem zpn(ls:List Law)(A:Option Addr)(c:Nat)(day:Int)(w:World)(hl:ls.length<=10)(hS:Sl w 4 Law.cells A ls):Calls Tryz.prog 183 #[.slice A ls.length c,.int .i64 day] w (Ret w (zbc ls day).v):=by
 go_enter Tryz.func183,Tryz.ntmps183
 go_upto_region 3 with(go_at_call 34;go_must(refine(zis _).mono ?_);rintro e wq ⟨rfl,z,rfl⟩)
 obtain⟨L,hL⟩:∃L,L=w.heap.size+1+z.os.size:=⟨_,rfl⟩
 have Ai:w.heap.size<L:=Mcu;rw[<-hL];have HL:=zHi hL;clear hL;go_loopw [6] (fun i wr=>∃k:Nat,k<=ls.length/\i=.int .i64 k/\∃x:Law,x=zbc (ls.take k) day/\Below w.heap.size w wr/\L+1<=wr.heap.size/\wr.heap[w.heap.size]?=some (.cells #[.int .i64 0,.bool false,.int .i64 0,.int .i64 0] 100)/\wr.heap[L]?=some (.cells #[.int .i64 x.frm,.bool x.stems,.int .i64 x.num,.int .i64 x.den] 100)) (fun i _=>ls.length-(intOf i).toNat)
 case atStart=>
  refine⟨0,Nat.zero_le _,rfl,zmx,rfl,?_,?_,?_,?_⟩
  ·exact Bw
  ·rw[HL.o];simp[zag]
  ·exact zal (zb5 (zaq _ _ _ rfl))
  ·exact zaq _ _ _ (by rw[HL.o];simp[zag])
 case round=>
  obtain⟨k,hk,rfl,x,hx,hB,hsz,g0,g1⟩:=hrel;have c0:wr.cell? ⟨L,0,none⟩=some (.int .i64 x.frm):=McA;have c1:wr.cell? ⟨L,1,none⟩=some (.bool x.stems):=McA;have c2:wr.cell? ⟨L,2,none⟩=some (.int .i64 x.num):=McA;have c3:wr.cell? ⟨L,3,none⟩=some (.int .i64 x.den):=McA;have d0:wr.cell? ⟨w.heap.size,0,none⟩=some (.int .i64 0):=Mcy;have d1:wr.cell? ⟨w.heap.size,1,none⟩=some (.bool false):=Mcy;have d2:wr.cell? ⟨w.heap.size,2,none⟩=some (.int .i64 0):=Mcy;have d3:wr.cell? ⟨w.heap.size,3,none⟩=some (.int .i64 0):=Mcy;have f0:wr.frozen? ⟨w.heap.size,0,none⟩=false:=McI;have f1:wr.frozen? ⟨L,0,none⟩=false:=McJ;have e1:wr.frozen? ⟨L,1,none⟩=false:=McJ;have e2:wr.frozen? ⟨L,2,none⟩=false:=McJ;have e3:wr.frozen? ⟨L,3,none⟩=false:=McJ;have m1:wr.frozen? ⟨w.heap.size,1,none⟩=false:=McI;have m2:wr.frozen? ⟨w.heap.size,2,none⟩=false:=McI;have m3:wr.frozen? ⟨w.heap.size,3,none⟩=false:=McI;have dm:L<wr.heap.size:=Mcu;have au:w.heap.size<wr.heap.size:=Mcu;have aY:L≠wr.heap.size:=Mcu;by_cases ae:k<ls.length
  ·obtain⟨b,off,rfl,hb,hc⟩:=(hS.keep hB).at ae;have h0:wr.cell? ⟨b,off+k*4,none⟩=some (.int .i64 ls[k].frm):=hc 0 _ rfl;have h1:wr.cell? ⟨b,off+k*4+1,none⟩=some (.bool ls[k].stems):=hc 1 _ rfl;have h2:wr.cell? ⟨b,off+k*4+2,none⟩=some (.int .i64 ls[k].num):=hc 2 _ rfl;have h3:wr.cell? ⟨b,off+k*4+3,none⟩=some (.int .i64 ls[k].den):=hc 3 _ rfl;clear hc hS;go_wp2_with fail
   ·refine⟨⟨k+1,by omega,by go_num,ls[k],by rw[zfz ls day ae,if_pos (by simp;assumption)],?_,?_,?_,?_⟩,by simp[intOf];omega⟩
    ·exact zaM (zaM (zaM (zaM hB McL _) McL _) McL _) McL _
    ·first|omega|(simp;omega)
    ·exact((zaM (zaM (zaM (zaM (Below.refl L wr) McL _) McL _) McL _) McL _).block w.heap.size Mcu).trans g0
    ·exact znA g1
   ·exact⟨⟨k+1,by omega,by go_num,zbc (ls.take k) day,by rw[zfz ls day ae,if_neg (by simp;assumption)],hB,hsz,g0,by simpa[hx]using g1⟩,by simp[intOf];omega⟩
  ·go_wp2_with fail
   have pU:ls.take k=ls:=List.take_of_length_le Mcu;have g4:=znA (a:=.int .i64 (zbc ls day).frm) (b:=.bool (zbc ls day).stems) (c:=.int .i64 (zbc ls day).num) (d:=.int .i64 (zbc ls day).den) g0;rw[pU];refine bodyPost_ret (v:=(zbc ls day).v) ?_ rfl ?_
   ·refine zig rfl _ _ w.heap.size _ rfl ?_ ?_ ?_ ?_<;>simp[World.cell?,g4]
   ·exact Ret.of rfl (zaM (zaM (zaM (zaM hB McL _) McL _) McL _) McL _)
theorem on_laws{laws:List Law}{ds:List Deed}{names:List ByteArray}{day:Int}(h:zcs laws ds names day=0):zaC laws=0:=by
 unfold zcs at h;split at h
 ·rename_i h1
  rw[h]at h1;simp at h1
 ·rename_i h1
  have h2:(zdZ laws ds 200000).2.2=0:=Mc1;unfold zdZ at h2;split at h2
  ·exact h2
  ·rename_i h3
   simpa using h3
end
section
open Go.Shelf
theorem on_stop{laws:List Law}{ds:List Deed}{names:List ByteArray}{day:Int}(h:zcs laws ds names day=0):(zdZ laws ds 200000).2.2=0/\zbl day=true:=by
 unfold zcs at h;split at h
 ·rename_i h1
  rw[h]at h1;simp at h1
 ·rename_i h1
  refine⟨by simpa using h1,?_⟩;split at h
  ·cases h
  ·split at h
   ·cases h
   ·rename_i h2
    simpa using h2
end
open Go.Shelf
theorem zpo{L:List ByteArray}(h:L.Pairwise fun a b=>zbb b a=false)(hn:L.Nodup):AscT L:=
 (h.and hn).imp fun {a b} ⟨h1,h2⟩=>by
   rcases zdg a b with h|h|h
   ·exact h
   ·exact absurd h h2
   ·rw[h1]at h;cases h
theorem AscT.nodup{L:List ByteArray}(h:AscT L):L.Nodup:=h.imp fun {a b} h1=>zc8 h1
theorem asc_same{L M:List ByteArray}(h:AscT L)(k:AscT M)(hm:∀y,y∈L↔y∈M):L=M:=
 List.Perm.eq_of_pairwise (le:=fun a b=>zbb a b=true) (fun a b _ _ h1 h2=>by rw[zgT h1]at h2;cases h2) h k ((List.perm_ext_iff_of_nodup h.nodup k.nodup).2 hm)
