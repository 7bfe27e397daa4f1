import Derived.Test.YthhgkjfgpkbliaaGreatDoorO8
import Derived.Test.YthhgkjfgpkbliaaGreatDoorA3
set_option linter.all false
set_option maxRecDepth 100000
set_option maxHeartbeats 4000000
namespace Go.Proofs.YthhgkjfgpkbliaaGreatDoor
open Go.RowKit
attribute [local go_sem] World.cell?_alloc_mark zae zav zai zaw zam zan zao zap zaq zar zas
attribute [local go_sem] zah zac
theorem zjP{α:Type}[DecidableEq α]:∀ {l m:List α},l.Nodup->(∀x∈l,x∈m)->l.length<=m.length
 | [],_,_,_=>Nat.zero_le _
 |x::l,m,hn,hm=>by
  rw[List.nodup_cons]at hn;have hx:=hm x MbF;have:=zjP (l:=l) (m:=m.erase x) hn.2 (fun y hy=>(List.mem_erase_of_ne (fun e=>hn.1 (by rw[<-e];exact hy))).2 (hm y (by simp[hy])));rw[List.length_erase_of_mem hx]at this;have:=List.length_pos_of_mem hx;simp;omega
def zdz(out:Parts)(L:List ByteArray):Prop:= ∀p∈out,p.1∈L
theorem zdP{out:Parts}{fl:Bool}{n:ByteArray}{f:Rat}{L:List ByteArray}(h:zdz out L)(hn:n∈L):zdz (zcx n f (out,fl)).1 L:=fun p hp=>by
 rcases zi6 hp with e|h'
 ·rw[e];exact hn
 ·exact h p h'
mutual
def zcV(L:List ByteArray):List Tree->Prop
 | []=>True
 |t::l=>zh4 L t/\zcV L l
def zh4(L:List ByteArray):Tree->Prop
 | .leaf n=>n∈L
 | .node l=>zcV L l
end
mutual
theorem zdQ{part:Rat}{L:List ByteArray}:∀ {l:List Tree} {out:Parts} {fl:Bool},zcV L l->zdz out L->zdz (zbz part l (out,fl)).1 L
 | [],out,fl,_,h=>by rw[zbz];exact h
 |t::l,out,fl,hl,h=>by
  rw[zcV]at hl;rw[zbz];exact zdQ (l:=l) (fl:=(zdj part t (out,fl)).2) hl.2 (zmC hl.1 h)
theorem zmC{part:Rat}{L:List ByteArray}:∀ {t:Tree} {out:Parts} {fl:Bool},zh4 L t->zdz out L->zdz (zdj part t (out,fl)).1 L
 | .leaf n,out,fl,hl,h=>by
   rw[zh4]at hl;rw[zdj];exact zdP h hl
 | .node l,out,fl,hl,h=>by
   rw[zh4]at hl;rw[zdj];exact zdQ (l:=l) hl h
end
theorem zjQ{L:List ByteArray}:∀ {l:List Tree},(∀t∈l,zh4 L t)->zcV L l
 | [],_=>by rw[zcV];trivial
 |t::l,h=>by
  rw[zcV];exact⟨h t MbF,zjQ fun t' ht=>h t' (by simp[ht])⟩
theorem zgi{s:St}{stems:Bool}{frm:ByteArray}{L:List ByteArray}(hL:∀c∈s.children,c.2∈L):∀(f:Nat) (n:ByteArray),zcV L (zbF s stems frm f n)
 |0,_=>by rw[show zbF s stems frm 0 _=[]from rfl,zcV];trivial
 |f+1,n=>by
  refine zjQ fun t ht=>?_
  rw[zim]at ht;obtain⟨c,hc,h1⟩:=List.mem_filterMap.1 ht;unfold zen at h1;split at h1
  ·simp only[Option.some.injEq]at h1;rw[<-h1,zh4];exact hL (n,c) (zcJ.1 hc)
  ·split at h1
   ·simp only[Option.some.injEq]at h1;rw[<-h1,zh4];exact zgi hL f c
   ·cases h1
theorem zfQ{s:St}{frm:ByteArray}{L:List ByteArray}:∀ {l out:Parts} {fl:Bool} {rest:Rat},(∀p∈l,p.1∈L)->zdz out L->zdz (zc8 s frm l (out,fl) rest).1.1 L
 | [],_,_,_,_,h=>h
 |p::l,out,fl,rest,hl,h=>by
  rw[zc8];split
  ·exact zfQ (l:=l) (fun q hq=>hl q Mcx) (zdP (fl:=fl) h (hl p MbF))
  ·exact zfQ (l:=l) (fun q hq=>hl q Mcx) h
theorem zjR{s:St}{law:Law}{n:ByteArray}(hG:GoodParts (zbL s law n).1):(zbL s law n).1.length<=(zbp s n).length+s.children.length+1:=by
 let L:=((zbp s n).map (·.1))++(s.children.map (·.2))++[zbR s n]
 have hL:zdz (zbL s law n).1 L:=by
  have h1:∀p∈zbp s n,p.1∈L:=fun p hp=>List.mem_append_left _ (List.mem_append_left _ (List.mem_map.2 ⟨p,hp,rfl⟩))
  have h2:∀c∈s.children,c.2∈L:=fun c hc=>List.mem_append_left _ (List.mem_append_right _ (List.mem_map.2 ⟨c,hc,rfl⟩))
  have h3:zbR s n∈L:=List.mem_append_right _ MbF;have h4:=zfQ (s:=s) (frm:=n) (fl:=false) (rest:=1) h1 (show zdz [] L from fun p hp=>by cases hp);have h5:=zgi (stems:=law.stems) (frm:=n) h2 (zaX s) n;unfold zbL;generalize zc8 s n (zbp s n) ([],false) 1=y at*;obtain⟨⟨o,f⟩,r⟩:=y;simp only;split
  ·exact zdP h4 h3
  ·split
   ·unfold zce;exact zdQ h5 h4
   ·unfold zce;exact zdQ (fl:=_) h5 (zdP (fl:=f) h4 h3)
 have hn:((zbL s law n).1.map (·.1)).Nodup:=by
  rw[List.nodup_iff_pairwise_ne,List.pairwise_map];exact hG.asc.imp fun h=>zcp h
 have:=zjP (m:=L) hn (fun x hx=>by
  obtain⟨p,hp,rfl⟩:=List.mem_map.1 hx
  exact hL p hp)
 simp only[L,List.length_append,List.length_map,List.length_singleton]at this;exact this
open Go.Shelf
theorem elInt:ElTy Tryz.prog 102 3 1 8:=zcZ (z:=.int .i64 0) MbE MbE rfl MbD
def TzTab(w:World):Prop:=TabAt 3 Lib.deBruijn64tab w/\3<w.heap.size
theorem TzTab.keep{w W:World}{n:Nat}(h:TzTab w)(hB:Below n w W)(hn:w.heap.size<=n:=by first|exact Nat.le_refl _|omega):TzTab W:=
 ⟨fun j hj=>(za4 hB (Nat.lt_of_lt_of_le h.2 hn)).trans (h.1 j hj),Nat.lt_of_lt_of_le h.2 hB.size⟩
theorem tz_any(x:Nat)(hx:x<4096)(w:World)(hT:TzTab w):Calls Tryz.prog 167 #[.int .u64 x] w (Ret0 w (.int .i64 (Lib.ctz 64 x))):=
 (Any7.bits_TrailingZeros tzBits x MbC w (fun _=>hT.1)).mono fun _ _ h=>⟨h.1,h.2.symm⟩
theorem sl_int{w:World}{b n:Nat}{t:TypeId}{fr:Nat×Nat}(h:w.heap[b]?=some (.cells #[.int .i64 (n:Int)] t fr)):Sl w 1 intC (some ⟨b,0,none⟩) [n]:=fun _=>⟨b,0,rfl,zad h,fun k y hy j u hu=>by
 have hk:k=0:=MbK;subst hk;simp only[List.getElem?_cons_zero,Option.some.injEq]at hy;subst hy;match j,hu with
 |0,hu=>simp[intC]at hu;simp[World.cell?,h,<-hu]
 |j+1,hu=>simp[intC]at hu⟩
theorem zjS(a b:Nat)(ha:a<4611686018427387904)(hb:b<4611686018427387904):bits .and .i64 (a:Int) (b:Int)=((a &&& b:Nat):Int):=by
 have hx:a &&& b<=a:=Nat.and_le_left;have h1:(BitVec.ofInt 64 (a:Int)).toNat=a:=by
  rw[BitVec.ofInt_natCast,BitVec.toNat_ofNat];exact Nat.mod_eq_of_lt MbC
 have h2:(BitVec.ofInt 64 (b:Int)).toNat=b:=by
  rw[BitVec.ofInt_natCast,BitVec.toNat_ofNat];exact Nat.mod_eq_of_lt MbC
 show IntKind.i64.wrap ((BitVec.ofInt 64 (a:Int) &&& BitVec.ofInt 64 (b:Int)).toNat:Int)=_;rw[BitVec.toNat_and,h1,h2,IntKind.wrap_i64];omega
theorem zlM(x:Nat)(hx:x<4096)(h0:x≠0):bits .and .i64 (x:Int) ((x:Int)-1)=((x &&& (x-1):Nat):Int):=by
 rw[show((x:Int)-1)=((x-1:Nat):Int) by omega];exact zjS x (x-1) MbC MbC
theorem zjT(n set:Nat)(w:World)(hn:n<=12)(hx:set<2^n)(hT:TzTab w):
 Calls Tryz.prog 109 #[.int .i64 set] w (fun e w'=>∃v,e=.returned v/\OwnS w' w.heap.size 3 1 intC v (zcz n set)/\Below w.heap.size w w'):=by
 have HT:=zHi hT;clear hT;go_enter Tryz.func109,Tryz.ntmps109
 go_wp2_with fail
 go_loopw [0,3] (fun v0 v wr=>∃(x:Nat) (acc:List Nat),v0=.int .i64 x/\x<2^n/\Hid (zcz n set=acc++zcz n x)/\OwnS wr w.heap.size 3 1 intC v acc/\Below w.heap.size w wr) (fun v0 _ _=>(intOf v0).toNat)
 case atStart=>exact⟨set,[],rfl,hx,rfl,OwnS.nil,Below.refl _ _⟩
 case round=>
  obtain⟨x,acc,rfl,cz,HX,ae,hB⟩:=hrel;obtain⟨VA,vc,rfl,_,mX⟩:=ae.sl zfz;obtain⟨HO,HB⟩:=yH2 ae hB;have nA:x<4096:=Nat.lt_of_lt_of_le cz (Nat.pow_le_pow_right (n:=2) MbD hn);by_cases h0:x=0
  ·subst h0;have wu:=HX.o;rw[bits_none,List.append_nil]at wu;have jt:=zHi wu;clear wu ae;go_wp2_with fail
   go_ret
   exact⟨_,rfl,by rw[jt.o];exact HO.o,HB.o⟩
  ·have ag:¬(x:Int)=0:=MbC;have hcv:IntKind.u64.wrap (x:Int)=(x:Int):=by rw[IntKind.wrap_u64];omega
   have AI:=zHi (fun W (hW:Below wr.heap.size wr W)=>tz_any x nA W ((HT.o.keep HB.o).keep hW));have hal:acc.length<=12:=by
    have h1:=congrArg List.length HX.o;have h2:(zcz n set).length<=n:=by unfold zcz;exact Nat.le_trans (List.length_filter_le _ _) MbF
    rw[List.length_append]at h1;omega
   have aS:=hB.size;clear ae hB;go_upto_region 3 with
    (first
      |(go_at_call 167
        go_must(refine(AI.o _ Bw).mono ?_)
        rintro e wq ⟨rfl,rfl⟩)
      |(at_builtin
        go_loud(refine zaG (v:=.slice VA acc.length vc) (n:=acc.length) (m:=1) rfl _ _ rfl elInt zfz intC_one rfl (xs:=acc) (ys:=[Lib.ctz 64 x]) (HO.o.keep (n:=wr.heap.size) Bw) rfl rfl rfl (sl_int (za3 _ _ _ rfl)) MbO MbC MbH ?_)
        intro v3 w3 h1 h2 h3;have bW:=Below.grown (B:=w.heap.size) (a:=w) (HB.o.trans (Below.mono (B:=wr.heap.size) (zau (Below.refl _ _) _) aS)) h2 MbH (fun j hj=>(HO.o.ge j hj).1);obtain⟨H1,bw⟩:=yH2 h1 bW
        clear h1 h2 h3 bW))
   go_wp2_with fail
   go_round
   case rel=>
    rw[zlM x nA h0];refine⟨x &&& (x-1),acc++[Lib.ctz 64 x],rfl,zh3 cz,?_,H1.o,bw.o⟩;show _=_;rw[HX.o,bits_step hn cz h0];simp
   case measure=>
    rw[zlM x nA h0];have:=zjO h0;simp only[intOf];omega
