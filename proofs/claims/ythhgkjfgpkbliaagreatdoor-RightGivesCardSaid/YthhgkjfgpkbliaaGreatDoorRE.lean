import Derived.Test.YthhgkjfgpkbliaaGreatDoorA3
import Derived.Test.YthhgkjfgpkbliaaGreatDoorO8
set_option linter.all false
set_option maxRecDepth 100000
set_option maxHeartbeats 4000000
namespace Go.Proofs.YthhgkjfgpkbliaaGreatDoor
open Go.RowKit
attribute [local go_sem] World.cell?_alloc_mark zae zav zai zaw zam zan zao zap zaq zar zas
def ekSp(s:Spot):Value:=.agg #[.string s.1,.int .i64 s.2]
theorem equal_sp(a:ByteArray)(c:Int)(a':ByteArray)(c':Int)(w:World):(Op.equal 251 (.agg #[.string a,.int .i64 c]) (.agg #[.string a',.int .i64 c'])).run Tryz.prog w=.ok (zag a a'&&c==c') w:=by
 simp only[Op.equal,Op.maxDepth];go_simp
 unfold zag;by_cases h1:a.toList=a'.toList<;>by_cases h2:c=c'<;>simp[h1,h2]
theorem zmG(v:Value)(e:MapEntry)(es:List MapEntry)(fs:Array Field)(i:Nat):Instr.findNow (.struct fs) v (e::es) i=none:=by
 unfold Instr.findNow;cases v<;>simp[Instr.sameNow]
theorem zf4{V:Type}(ev:V->Value)(p:Spot)(w:World):∀(es:List MapEntry) (m:List (Spot×V)),es.map (fun e=>(e.key,e.val))=m.map (fun p=>(ekSp p.1,ev p.2))->∀i,
 (Instr.findAsking 251 (ekSp p) es i).run Tryz.prog w=.ok ((locate eqSp p m i).map fun p=>(p.1,ev p.2)) w
 | [],[],_,_=>by simp[Instr.findAsking,locate]
 | [],_::_,h,_=>by simp at h
 |_::_,[],h,_=>by simp at h
 |e::es,q::m,h,i=>by
  simp only[List.map_cons,List.cons.injEq,Prod.mk.injEq]at h;obtain⟨⟨hk,hv⟩,ht⟩:=h;unfold Instr.findAsking locate;have h1:=equal_sp p.1 p.2 q.1.1 q.1.2 w;have h2:=zf4 ev p w es m ht (i+1);rw[hk,hv];simp only[ekSp]at h1 h2⊢;simp only[Sem.run_bind,h1,Result.andThen_ok];change Sem.run _ (if(eqSp p q.1)=true then _ else _) w=_;cases hq:eqSp p q.1
  ·simpa using h2
  ·simp
theorem zkU(e:Bool)(p:Spot)(w:World):(Instr.checkKey e 10000 251 (ekSp p)).run Tryz.prog w=.ok () w:=by
 obtain⟨a,c⟩:=p;cases e<;>kernel_rfl
theorem zkV(a:ByteArray)(c:Int):Instr.sameBits 10000 (.agg #[.string a,.int .i64 c]) (.agg #[.string a,.int .i64 c])=true:=by
 have h2:∀n,Instr.sameBits (n+1) (.agg #[.string a,.int .i64 c]) (.agg #[.string a,.int .i64 c])=true:=fun n=>by
  have h:∀n (k:IntKind) (x:Int),Instr.sameBits n (.int k x) (.int k x)=true:=fun n k x=>by cases n<;>simp[Instr.sameBits]
  simp[Instr.sameBits,zf8,beq_toListBytes,h]
 exact h2 9999
theorem zlP{V:Type}{t et:TypeId}{ev:V->Value}{z:V}(ht:Tryz.prog.underlying t=some (.map 251 et))(hz:∀w,(zeroValue et).run Tryz.prog w=.ok (ev z) w):MapTy Tryz.prog t 251 et ekSp ev z eqSp where
 ht:=ht
 hz:=hz
 hck:=zkU
 hfind:=fun k es m h w=>by
  have hu:∃fs,Tryz.prog.underlying 251=some (.struct fs):=⟨_,Tryz.underlying251⟩
  obtain⟨fs,hu⟩:=hu;match es,m,h with
  | [],[],_=>simp[Instr.findKey,run_underlying hu,Instr.findNow,locate]
  | [],_::_,h=>simp at h
  |e::es,m,h=>
   simp only[Instr.findKey,Sem.run_bind,run_underlying hu,Result.andThen_ok,zmG];exact zf4 ev k w (e::es) m h 0
 hsame:=fun k k' h=>by
  have e:=ze3.1 h;subst e;exact zkV k.1 k.2
theorem mapPV:MapTy Tryz.prog 248 251 3 ekSp (fun v:Value=>v) (.int .i64 0) eqSp:=zlP Tryz.underlying248 (fun w=>by kernel_rfl)
theorem mapPM:MapTy Tryz.prog 249 251 103 ekSp (fun v:Value=>v) (.map none) eqSp:=zlP Tryz.underlying249 (fun w=>by kernel_rfl)
theorem zkW(n:ByteArray)(w:World):(Instr.lookup 103 (.map none) (.string n) false).run Tryz.prog w=.ok (.bool false) w:=by
 kernel_rfl
theorem zit{K V:Type}{eq:K->K->Bool}{k:K}:∀ {m:List (K×V)} {i j:Nat} {v:V},locate eq k m i=some (j,v)->(m[j-i]?).map (·.2)=some v
 | [],_,_,_,h=>by cases h
 |p::l,i,j,v,h=>by
  unfold locate at h;split at h
  ·simp only[Option.some.injEq,Prod.mk.injEq]at h;obtain⟨rfl,rfl⟩:=h;simp
  ·obtain⟨h1,_⟩:=zcY h;have e:j-i=(j-(i+1))+1:=MbC;rw[e];simpa using zit h
theorem ziW{P:Program}{t kt et:TypeId}{K:Type}{ek:K->Value}{z:Value}{eq:K->K->Bool}{w:World}{b:Nat}{m:List (K×Value)}(T:MapTy P t kt et ek (fun v:Value=>v) z eq)(h:MapS w b ek (fun v:Value=>v) m)(k:K):
 ∃w' st j,(Instr.mapEntry t (.map (some b)) (ek k)).run P w=.ok (.tuple #[(mget eq k m).getD z,.int .i64 (st:Nat)]) w'/\StampAt w' b ek (mput eq k ((mget eq k m).getD z) m) j st/\(∀v,(mput eq k ((mget eq k m).getD z) m).set j (k,v)=mput eq k v m)/\((mput eq k ((mget eq k m).getD z) m)[j]?).map (·.1)=some k/\w.grownBy w' (some b)/\w'.heap.size=w.heap.size:=by
 obtain⟨es,c,hh,hm,hb,hn⟩:=h;have h1:=T.hfind k es.toList m hm w;have aa:=(Array.getElem?_eq_some_iff.1 hh).1;have cy:=zet eq k m 0;cases hl:locate eq k m 0 with
 |none=>
  rw[hl]at cy;rw[<-cy];have hp:=fun v'=>zdE hl v'
  refine⟨_,c,m.length,?_,?_,?_,by rw[hp];simp,zfx w b (.map (es.push {key:=ek k,val:=z,born:=c}) (c+1)),by simp⟩
  ·exact MaQ
  ·refine⟨es.push {key:=ek k,val:=z,born:=c},c+1,by simp[Array.getElem?_setIfInBounds,aa],?_,?_,?_,?_⟩
   ·rw[hp];simp[hm]
   ·exact Maf
   ·exact MZ
   ·exact MaY
  ·intro v;rw[hp,hp,List.set_append_right _ _ (Nat.le_refl _)];simp
 |some p=>
  obtain⟨j,u⟩:=p;rw[hl]at cy;rw[<-cy];have t8:=zit hl;obtain⟨_,q,hq,he,bq⟩:=zcY hl;simp only[Nat.sub_zero]at hq bq t8;rw[hq]at t8;simp only[Option.map_some,Option.some.injEq]at t8;have hj:j<m.length:=(List.getElem?_eq_some_iff.1 hq).1;have af:es.toList.length=m.length:=Mce;have bZ:j<es.size:=by
   have h0:es.size=m.length:=by simpa using af
   omega
  have jI:(es[j]).key=ek q.1:=by
   exact Ma2
  have eK:(es[j]).val=u:=by
   have:=congrArg (fun l=>l[j]?) hm;simp[List.getElem?_map,hq,bZ]at this;rw[<-t8];exact this.2
  have bX:(es.modify j fun e=> {e with key:=ek k}).toList.map (·.born)=es.toList.map (·.born):=by
   exact MH
  refine⟨_,(es[j]).born,j,?_,?_,?_,by rw[bq];simp[hj],zfx w b (.map (es.modify j fun e=> {e with key:=ek k}) c),by simp⟩
  ·exact Mai
  ·rw[Option.map_some,Option.getD_some,bq];exact Mq
  ·intro v;rw[Option.map_some,Option.getD_some,bq,bq,List.set_set]
theorem StampAt.mapAt{w:World}{b:Nat}{K:Type}{ek:K->Value}{m:List (K×Value)}{j st:Nat}(h:StampAt w b ek m j st):MapAt w b ek (fun v:Value=>v) m:=by
 obtain⟨es,c,h1,h2,_⟩:=h;exact⟨es,c,h1,h2⟩
theorem zkX{P:Program}{ops:Array Oper}{o:Oper}{a:Act}{w:World}{K:Act->World->Prop}{Q:Exit->Act->World->Prop}{E:Prop}{T:TypeId}(aQ:o.guard=none)(x i u:Operand)(ho:o.op=.mapUpdate T x i u)(vx vi vu:Value)(hx:a.eval x=vx)(hi:a.eval i=vi)(hu:a.eval u=vu)(w':World)
 (ai:(Instr.mapUpdate T vx vi vu).run P w=.ok () w')(h:K (a.put o.dst undef) w'):if Region.wanted o (yielded ops a.tmps)=true then Oper.wp P o a w K Q else E:=by
 exact MP
open Go.Shelf
attribute [local go_sem] zah zac
def zgj:List Rec->List Rec->Bool
 |_,[]=>false
 |pre,a::r=>pre.any (fun b=>zbq a b)||zgj (pre++[a]) r
theorem zjV:∀(l pre:List Rec),zgj pre l=((l.any fun a=>pre.any fun b=>zbq a b)||zi2 l)
 | [],pre=>by simp[zgj,zi2]
 |a::r,pre=>by
  rw[zgj,zjV r (pre++[a]),zi2,List.any_cons];have h:(r.any fun a'=>(pre++[a]).any fun b=>zbq a' b)=((r.any fun a'=>pre.any fun b=>zbq a' b)||r.any fun y=>zbq y a):=by
   induction r with
   |nil=>rfl
   |cons x r ih=>
    rw[List.any_cons,List.any_cons,List.any_cons,ih,List.any_append,List.any_cons,List.any_nil,Bool.or_false];cases pre.any (fun b=>zbq x b)<;>cases zbq x a<;>cases(r.any fun a'=>pre.any fun b=>zbq a' b)<;>rfl
  rw[h];cases pre.any (fun b=>zbq a b)<;>cases(r.any fun a'=>pre.any fun b=>zbq a' b)<;>cases(r.any fun y=>zbq y a)<;>simp
theorem sl_take5{α:Type}{w:World}{size:Nat}{f:α->List Value}{A:Option Addr}{xs:List α}(h:Sl w size f A xs)(k:Nat):Sl w size f A (xs.take k):=fun hl=>by
 obtain⟨b,off,hA,hb,hc⟩:=h (by rw[List.length_take]at hl;omega);refine⟨b,off,hA,hb,fun j x hx=>hc j x ?_⟩;rw[List.getElem?_take]at hx;split at hx
 ·exact hx
 ·cases hx
theorem conC_any(a b:Rec)(P:Nat)(w:World)(ha:0<=a.kind/\a.kind<=4)(hb:0<=b.kind/\b.kind<=4)(hP:w.heap[P]?=some (recO a)):Calls Tryz.prog 169 #[b.v,.pointer (some ⟨P,0,none⟩)] w (Ret w (.bool (zbq a b))):=by
 have HA:=zHi (fun W=>zkN a b W ha hb);generalize zbq a b=r at*;obtain⟨kd,nm,ot,pl,dy,tl,nu,de⟩:=a;obtain⟨kd2,nm2,ot2,pl2,dy2,tl2,nu2,de2⟩:=b;have hl:=zad hP;have hn:P≠w.heap.size:=MbC;unfold recO at hP;obtain⟨c0,c1,c2,c3,c4,c5,c6,c7⟩:=cF8 hP;clear hP ha hb;unfold Rec.v at HA⊢;go_enter Tryz.func169,Tryz.ntmps169
 go_wp2_with (go_at_call 170;go_must(refine(HA.o _).mono ?_);rintro e wq ⟨rfl,z,rfl⟩)
 go_ret
 exact Ret.of rfl Bw
theorem zhL(l:List Rec)(A:Option Addr)(c:Nat)(ci tm:Bool)(w:World)(hc:l.length<=c)(hl:l.length<=1000)(hk:∀x∈l,0<=x.kind/\x.kind<=4)(hS:Sl w 8 Rec.cells A l)
 (nM:∀W,Below w.heap.size w W->Calls Tryz.prog 171 #[.slice A l.length c] W (Ret W (.bool ci)))(rE:∀W,Below w.heap.size w W->Calls Tryz.prog 172 #[.slice A l.length c] W (Ret W (.bool tm))):
 Calls Tryz.prog 111 #[.slice A l.length c] w (Ret w (.bool (zi2 l||ci||tm))):=by
 have eg:∀args w,(callFunc 169 args).run Tryz.prog w=.ok (.enter 169 args) w:=enters_of Tryz.func169 MbE rfl;obtain⟨zG,HS,HK,wI,xm⟩:=yH5 eg hS hk nM rE;have eD:zi2 l=zgj (l.take 0) (l.drop 0):=by rw[List.take_zero,List.drop_zero,zjV];simp
 generalize zi2 l=R at*;have HP:=zHi eD;clear hS hk nM rE eg eD;go_enter Tryz.func111,Tryz.ntmps111
 go_wp2_with fail
 go_loopw [7] (fun i wr=>∃k:Nat,k<=l.length/\i=.int .i64 k/\Hid (R=zgj (l.take k) (l.drop k))/\Below w.heap.size w wr) (fun i _=>l.length-(intOf i).toNat)
 case atStart=>exact⟨0,Nat.zero_le _,rfl,HP.o,Below.refl _ _⟩
 case round=>
  obtain⟨k,hk,rfl,HX,hB⟩:=hrel;have HB:=zHi hB;have aS:=hB.size;by_cases aa:k<l.length
  ·have hx:=HX.o;rw[List.drop_eq_getElem_cons aa,zgj,<-List.take_succ_eq_append_getElem aa]at hx;have q8:∀W,Below wr.heap.size wr W->W.heap[wr.heap.size]?=some (recO l[k])->Calls Tryz.prog 168 #[.slice A k c,.func (.func 169) #[] #[.pointer (some ⟨wr.heap.size,0,none⟩)]] W (Ret W (.bool ((l.take k).any fun b=>zbq l[k] b))):=fun W hW hP=>by
    refine cfRec_any 169 _ zG.o _ A k c (l.take k) W Mcj Mcj ((sl_take5 HS.o k).keep (HB.o.trans (hW.mono aS))) fun x hx W' kp=>?_
    refine(conC_any l[k] x wr.heap.size W' (HK.o _ (List.getElem_mem aa)) (HK.o x (List.mem_of_mem_take hx)) ((kp.block _ (zad hP)).trans hP)).mono ?_;rintro e wq ⟨rfl,z,rfl⟩;exact⟨rfl,kp.trans ((za5 W' z).mono kp.size)⟩
   obtain⟨b,off,hA,hb,ah⟩:=(HS.o.keep hB).at aa;obtain⟨aK,nj,aq⟩:=yH3 hx q8 aa;generalize l[k]=x at*;generalize((l.take k).any fun b=>zbq x b)=an at*;obtain⟨kd,nm,ot,pl,dy,tl,nu,de⟩:=x;have i0:wr.cell? ⟨b,off+k*8,none⟩=some (.int .i64 kd):=ah 0 _ rfl;have i1:wr.cell? ⟨b,off+k*8+1,none⟩=some (.string nm):=ah 1 _ rfl;have i2:wr.cell? ⟨b,off+k*8+2,none⟩=some (.string ot):=ah 2 _ rfl;have i3:wr.cell? ⟨b,off+k*8+3,none⟩=some (.string pl):=ah 3 _ rfl;have i4:wr.cell? ⟨b,off+k*8+4,none⟩=some (.int .i64 dy):=ah 4 _ rfl;have i5:wr.cell? ⟨b,off+k*8+5,none⟩=some (.int .i64 tl):=ah 5 _ rfl;have i6:wr.cell? ⟨b,off+k*8+6,none⟩=some (.int .i64 nu):=ah 6 _ rfl;have i7:wr.cell? ⟨b,off+k*8+7,none⟩=some (.int .i64 de):=ah 7 _ rfl;have ao:(k:Int)<(l.length:Int):=MbC;have bf:(0:Int)<=(k:Int):=MbC;have eV:(k:Int)<=(c:Int):=MbC;subst hA;clear ah hx q8 HX hB;cases an
   ·go_wp2_with (go_at_call 168;go_must(refine(nj.o _ Bw (za3 _ _ _ rfl)).mono ?_);rintro e wq ⟨rfl,z,rfl⟩)
    go_round
    case rel=>exact⟨k+1,aq.o,by go_num,by show _=_;rw[aK.o,Bool.false_or],HB.o.trans (Below.mono (B:=wr.heap.size) Bw aS)⟩
    case measure=>have:=aq.o;simp only[intOf];omega
   ·have aX:Hid (R=true):=by show _=_;rw[aK.o,Bool.true_or]
    go_wp2_with (go_at_call 168;go_must(refine(nj.o _ Bw (za3 _ _ _ rfl)).mono ?_);rintro e wq ⟨rfl,z,rfl⟩)
    exact Maa
  ·have ao:¬(k:Int)<(l.length:Int):=MbC;have hx:=HX.o;rw[List.drop_eq_nil_of_le MbC,zgj]at hx;have aX:Hid (R=false):=hx;clear hx;have nM:=fun W (hW:Below wr.heap.size wr W)=>wI.o W (hB.trans (hW.mono aS))
   have rE:=fun W (hW:Below wr.heap.size wr W)=>xm.o W (hB.trans (hW.mono aS))
   obtain⟨fg,AD⟩:=yH2 nM rE;clear nM rE hB wI xm;cases ci
   ·go_wp2_with (first
     |(go_at_call 171;go_must(refine(fg.o _ Bw).mono ?_);rintro e wq ⟨rfl,z,rfl⟩)
     |(go_at_call 172;go_must(refine(AD.o _ Bw).mono ?_);rintro e wq2 ⟨rfl,z2,rfl⟩))
    exact Maa
   ·go_wp2_with (go_at_call 171;go_must(refine(fg.o _ Bw).mono ?_);rintro e wq ⟨rfl,z,rfl⟩)
    exact Maa
