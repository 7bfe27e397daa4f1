/- Walk of chapter 5's tooMuch. -/
import Derived.Test.YtmaidggpbihlgaaGreatDoorO9
import Derived.Test.YtmaidggpbihlgaaGreatDoorE3
import Derived.Test.YtmaidggpbihlgaaGreatDoorE5
set_option linter.unusedSimpArgs false
set_option linter.unusedVariables false
namespace Go.Proofs.YtmaidggpbihlgaaGreatDoor
open Go.RowKit Go.Shelf
attribute [local go_sem] World.cell?_alloc_mark ext_size ext_cell ext_frozen lt_add_r lt_add_r2 lt_add_r3 lt_add_r4 lt_add_r5 lt_add_r6 lt_add_r7 lt_add_r8
attribute [local go_sem] ext_setCell alloc_setCell_lt
theorem nonneg5 {l:List Rec} (h: ∀x∈l,checkRecP x=0):Nonneg l:=fun x hx hk=>by
 have h1:=share_ok (h x hx) hk
 have h2:=unit_rat h1
 have h3:=(unit_bd h1).1
 have h4:((1:Int):Rat)<=((unitR x:Int):Rat):=Rat.intCast_le_intCast.2 h3
 have e:((1:Int):Rat)=1:=rfl
 grind
theorem nonneg_take {l:List Rec} (h:Nonneg l) (k:Nat):Nonneg (l.take k):=fun x hx=>h x (List.mem_of_mem_take hx)
theorem count_put {W W':World} {base b kk:Nat} {l:List Rec} {x:Rec} {mc:List (Spot×Value)} {T:List ByteArray} (hk:x.kind=3) (hn:x.name∉toldS (spotR x) l)
 (h1:MapS W' b ekSp (fun v:Value=>v) mc) (h2: ∀s,(mget eqSp s mc=none/\toldS s l=[])\/ ∃k T,mget eqSp s mc=some (.map (some k))/\base<=k/\MapS W k ekS evB (outM T)/\ ∀n,n∈T↔n∈toldS s l)
 (h3: ∀s s' k,mget eqSp s mc=some (.map (some k))->mget eqSp s' mc=some (.map (some k))->s=s') (h4:mget eqSp (spotR x) mc=some (.map (some kk))) (hb:base<=kk) (hT: ∀n,n∈T↔n∈toldS (spotR x) l)
 (hm:MapS W' kk ekS evB (outM (T++[x.name]))) (hF: ∀k,k<W.heap.size->k≠kk->base<=k-> ∀es c,W.heap[k]?=some (.map es c)->W'.heap[k]?=W.heap[k]?):CountAt W' base b (l++[x]):=by
 refine⟨mc,h1,fun s=> ?_,h3⟩
 by_cases hs:s=spotR x
 ·subst hs
  refine .inr ⟨kk,T++[x.name],h4,hb,hm,fun n=> ?_⟩
  rw[told_put hk,List.mem_append,List.mem_append,hT]
 ·rw[told_other hs]
  rcases h2 s with h|⟨k,T',e1,e2,e3,e4⟩
  ·exact .inl h
  ·refine .inr ⟨k,T',e1,e2,?_,e4⟩
   have hne:k≠kk:=fun e=>hs (h3 s (spotR x) kk (by rw[<-e];exact e1) h4)
   obtain⟨es,c,hx⟩:=mapS_block e3
   exact e3.keep (hF k e3.at.lt hne e2 es c hx)
structure MidAt (w0 W:World) (O:Nat) (nm ot pl:ByteArray) (dy kd tl nu de:Int) (pre:List Rec) (ms:List (Spot×Int)) (mc:List (Spot×Value)) (kk:Nat) (T:List ByteArray):Prop where
 rec5:W.heap[O]?=some (.cells #[.int .i64 kd, .string nm, .string ot, .string pl, .int .i64 dy, .int .i64 tl, .int .i64 nu, .int .i64 de] 67)
 spot:W.heap[O+1]?=some (.cells #[.string pl, .int .i64 dy] 187)
 sums:MapS W w0.heap.size ekSp evI ms
 cnt:MapS W (w0.heap.size+1) ekSp (fun v:Value=>v) mc
 rows: ∀s,(mget eqSp s mc=none/\toldS s pre=[])\/ ∃k T,mget eqSp s mc=some (.map (some k))/\w0.heap.size+2<=k/\MapS W k ekS evB (outM T)/\ ∀n,n∈T↔n∈toldS s pre
 inj: ∀s s' k,mget eqSp s mc=some (.map (some k))->mget eqSp s' mc=some (.map (some k))->s=s'
 at5:mget eqSp (pl,dy) mc=some (.map (some kk))
 kb:w0.heap.size+2<=kk
 map:MapS W kk ekS evB (outM T)
 told: ∀n,n∈T↔n∈toldS (pl,dy) pre
 low:Below w0.heap.size w0 W
 size:O+2<=W.heap.size
theorem mid_drew {w0 W:World} {O:Nat} {nm ot pl:ByteArray} {dy kd tl nu de:Int} {pre:List Rec} {ms:List (Spot×Int)} {mc:List (Spot×Value)} {kk:Nat} {T:List ByteArray} (h:MidAt w0 W O nm ot pl dy kd tl nu de pre ms mc kk T):MidAt w0 W.drew O nm ot pl dy kd tl nu de pre ms mc kk T:=
 ⟨h.rec5,h.spot,h.sums,h.cnt,h.rows,h.inj,h.at5,h.kb,h.map,h.told,B_drew h.low,h.size⟩
theorem mget_val (s:Spot): ∀ms:List (Spot×Int),mget eqSp s (ms.map fun p=>(p.1,evI p.2))=(mget eqSp s ms).map evI
 | []=>rfl
 |x::ms=>by
  rw[List.map_cons,mget,mget]
  cases eqSp s x.1
  ·simp[mget_val s ms]
  ·simp
theorem val_get (s:Spot) (ms:List (Spot×Int)):(mget eqSp s (ms.map fun p=>(p.1,evI p.2))).getD (.int .i64 0)= .int .i64 ((mget eqSp s ms).getD 0):=by
 rw[mget_val]
 cases mget eqSp s ms<;>rfl
theorem count_keep {W W':World} {base b:Nat} {l:List Rec} (h:CountAt W base b l) (hb:W'.heap[b]?=W.heap[b]?) (hk: ∀k,k<W.heap.size->base<=k->W'.heap[k]?=W.heap[k]?):CountAt W' base b l:=by
 obtain⟨mc,h1,h2,h3⟩:=h
 refine⟨mc,h1.keep hb,fun s=> ?_,h3⟩
 rcases h2 s with h|⟨k,T,e1,e2,e3,e4⟩
 ·exact .inl h
 ·exact .inr ⟨k,T,e1,e2,e3.keep (hk k e3.at.lt e2),e4⟩
theorem count_old {W:World} {base b:Nat} {l:List Rec} {x:Rec} (h:CountAt W base b l) (hc:x.kind≠3\/x.name∈toldS (spotR x) l):CountAt W base b (l++[x]):=by
 obtain⟨mc,h1,h2,h3⟩:=h
 refine⟨mc,h1,fun s=> ?_,h3⟩
 have ho:=told_old (l:=l) (x:=x) hc s
 rcases h2 s with⟨e,h⟩|⟨k,T,e1,e2,e3,e4⟩
 ·refine .inl ⟨e,?_⟩
  cases hq:toldS s (l++[x])with
  |nil=>rfl
  |cons a r=>
   have:=(ho a).1 (by rw[hq];simp)
   rw[h]at this
   cases this
 ·exact .inr ⟨k,T,e1,e2,e3,fun n=>(e4 n).trans (ho n).symm⟩
theorem mid_new {w0 wr W1:World} {O nb:Nat} {nm ot pl:ByteArray} {dy kd tl nu de:Int} {pre:List Rec} {ms:List (Spot×Int)} {mc:List (Spot×Value)}
 (q2: ∀s,(mget eqSp s mc=none/\toldS s pre=[])\/ ∃k T,mget eqSp s mc=some (.map (some k))/\w0.heap.size+2<=k/\MapS wr k ekS evB (outM T)/\ ∀n,n∈T↔n∈toldS s pre)
 (q3: ∀s s' k,mget eqSp s mc=some (.map (some k))->mget eqSp s' mc=some (.map (some k))->s=s') (h0:toldS (pl,dy) pre=[])
 (h1:W1.heap[O]?=some (.cells #[.int .i64 kd, .string nm, .string ot, .string pl, .int .i64 dy, .int .i64 tl, .int .i64 nu, .int .i64 de] 67)) (h2:W1.heap[O+1]?=some (.cells #[.string pl, .int .i64 dy] 187))
 (h3:MapS W1 w0.heap.size ekSp evI ms) (h4:MapS W1 (w0.heap.size+1) ekSp (fun v:Value=>v) (mput eqSp (pl,dy) (.map (some nb)) mc)) (hnb:wr.heap.size<=nb) (hw:w0.heap.size+2<=wr.heap.size) (hn:MapS W1 nb ekS evB (outM []))
 (hF: ∀j,j<wr.heap.size->j≠w0.heap.size+1->W1.heap[j]?=wr.heap[j]?) (hl:Below w0.heap.size w0 W1) (hs:O+2<=W1.heap.size):
 MidAt w0 W1 O nm ot pl dy kd tl nu de pre ms (mput eqSp (pl,dy) (.map (some nb)) mc) nb []:=by
 have hold: ∀s k,mget eqSp s mc=some (.map (some k))->k<wr.heap.size:=fun s k h=>by
  rcases q2 s with⟨e,_⟩|⟨k',T,e,_,hm,_⟩
  ·rw[e]at h;cases h
  ·rw[e]at h
   simp only[Option.some.injEq,Value.map.injEq]at h
   subst h
   exact hm.at.lt
 refine⟨h1,h2,h3,h4,fun s=> ?_,fun s s' k e1 e2=> ?_,?_,by omega,hn,fun n=>by rw[h0],hl,hs⟩
 ·rw[mget_mputSp]
  by_cases e:s=(pl,dy)
  ·subst e
   rw[eqSp_refl,if_pos rfl]
   exact .inr ⟨nb,[],rfl,by omega,hn,fun n=>by rw[h0]⟩
  ·rw[eqSp_ne.2 e,if_neg (by simp)]
   rcases q2 s with h|⟨k,T,e1,e2,e3,e4⟩
   ·exact .inl h
   ·exact .inr ⟨k,T,e1,e2,e3.keep (hF k e3.at.lt (by omega)),e4⟩
 ·rw[mget_mputSp]at e1 e2
  by_cases a:s=(pl,dy)
  ·by_cases b:s'=(pl,dy)
   ·rw[a,b]
   ·rw[a,eqSp_refl,if_pos rfl]at e1
    rw[eqSp_ne.2 b,if_neg (by simp)]at e2
    simp only[Option.some.injEq,Value.map.injEq]at e1
    have:=hold s' k e2
    omega
  ·by_cases b:s'=(pl,dy)
   ·rw[b,eqSp_refl,if_pos rfl]at e2
    rw[eqSp_ne.2 a,if_neg (by simp)]at e1
    simp only[Option.some.injEq,Value.map.injEq]at e2
    have:=hold s k e1
    omega
   ·rw[eqSp_ne.2 a,if_neg (by simp)]at e1
    rw[eqSp_ne.2 b,if_neg (by simp)]at e2
    exact q3 s s' k e1 e2
 ·rw[mget_mputSp,eqSp_refl,if_pos rfl]
theorem eql_map (k:Nat) (W:World):(binOp .eql 87 (.map (some k)) (.map none)).run Tryz.prog W= .ok (.bool false) W:=by
 kernel_rfl
theorem eql_map0 (W:World):(binOp .eql 87 (.map none) (.map none)).run Tryz.prog W= .ok (.bool true) W:=by
 kernel_rfl
open Classical in
set_option maxRecDepth 100000 in
set_option maxHeartbeats 2000000 in
theorem tooMuch_any (l:List Rec) (A:Option Addr) (c:Nat) (w:World) (hc:l.length<=c) (hl:l.length<=1000) (hok: ∀x∈l,checkRecP x=0) (hS:Sl w 8 Rec.cells A l):
 Calls Tryz.prog 100 #[.slice A l.length c] w (Ret w (.bool (decide (TooMuch l)))):=by
 have hmm:= @run_makeMap Tryz.prog
 have HS:=Lib.hid hS
 have HOK:=Lib.hid hok
 have HNN:=Lib.hid (nonneg5 hok)
 clear hS hok
 obtain⟨R,hR⟩: ∃R,R=decide (TooMuch l):=⟨_,rfl⟩
 rw[<-hR]
 have HR:=Lib.hid hR
 clear hR
 go_enter Tryz.func100,Tryz.ntmps100
 go_upto_region 4 with fail
 clear hmm
 go_loopw [12] (fun i wr=> ∃(k:Nat) (ms:List (Spot×Int)),k<=l.length/\i= .int .i64 k/\MapS wr w.heap.size ekSp evI ms/\Hid (SumsOk ms (l.take k))/\Hid (SmallOk (l.take k))/\CountAt wr (w.heap.size+2) (w.heap.size+1) (l.take k)/\Below w.heap.size w wr/\w.heap.size+2<=wr.heap.size) (fun i _=>l.length-(intOf i).toNat)
 case atStart=>
  refine⟨0,[],Nat.zero_le _,rfl,?_,by rw[List.take_zero];exact sums_nil,by rw[List.take_zero];exact small_nil,?_,Bw,by simp⟩
  ·exact(MapS.new w).below (n:=w.heap.size+1) (B_alloc (Below.refl _ _) _ (by simp)) (by simp)
  ·rw[List.take_zero]
   refine count_new ?_
   have:=MapS.new (ek:=ekSp) (ev:=fun v:Value=>v) (w.alloc (.map #[] 0))
   simpa using this
 case round=>
  obtain⟨k,ms,hk,rfl,hms,HSU,HSM,hcn,hB,hsz⟩:=hrel
  by_cases hlt:k<l.length
  ·obtain⟨b,off,hA,hb,hcc⟩:=(HS.out.keep hB).at hlt
   have hsn:=take_snoc5 hlt
   have hxo:=HOK.out _ (List.getElem_mem hlt)
   have hsp:l=l.take k++l[k]::l.drop (k+1):=by rw[<-List.drop_eq_getElem_cons hlt,List.take_append_drop]
   have HLT:=Lib.hid hlt
   have HSN:=Lib.hid hsn
   have HSP:=Lib.hid hsp
   have HXO:=Lib.hid hxo
   have HNP:=Lib.hid (nonneg_take HNN.out k)
   generalize l.drop (k+1)=post at*
   generalize l[k]=x at*
   generalize l.take k=pre at*
   clear hsn hxo hsp
   obtain⟨kd,nm,ot,pl,dy,tl,nu,de⟩:=x
   have i0:wr.cell? ⟨b,off+k*8,none⟩=some (.int .i64 kd):=hcc 0 _ rfl
   have i1:wr.cell? ⟨b,off+k*8+1,none⟩=some (.string nm):=hcc 1 _ rfl
   have i2:wr.cell? ⟨b,off+k*8+2,none⟩=some (.string ot):=hcc 2 _ rfl
   have i3:wr.cell? ⟨b,off+k*8+3,none⟩=some (.string pl):=hcc 3 _ rfl
   have i4:wr.cell? ⟨b,off+k*8+4,none⟩=some (.int .i64 dy):=hcc 4 _ rfl
   have i5:wr.cell? ⟨b,off+k*8+5,none⟩=some (.int .i64 tl):=hcc 5 _ rfl
   have i6:wr.cell? ⟨b,off+k*8+6,none⟩=some (.int .i64 nu):=hcc 6 _ rfl
   have i7:wr.cell? ⟨b,off+k*8+7,none⟩=some (.int .i64 de):=hcc 7 _ rfl
   have hki:(k:Int)<(l.length:Int):=by omega
   have hk0:(0:Int)<=(k:Int):=by omega
   have hkc:(k:Int)<=(c:Int):=by omega
   have hbs:=hB.size
   have HB:=Lib.hid hB
   have HMS:=Lib.hid hms
   have HCN:=Lib.hid hcn
   subst hA
   clear hcc hms hcn hB hlt
   obtain⟨WZ,hWZ⟩: ∃WZ,WZ=(wr.alloc (.cells #[.int .i64 kd, .string nm, .string ot, .string pl, .int .i64 dy, .int .i64 tl, .int .i64 nu, .int .i64 de] 67)).alloc (.cells #[.string pl, .int .i64 dy] 187):=⟨_,rfl⟩
   have hBZ:Below wr.heap.size wr WZ:=by rw[hWZ];repeat(first|exact B_refl|exact Below.refl _ _|assumption|with_reducible refine B_alloc ?_ _|with_reducible refine B_ext ?_ _|with_reducible refine B_drew ?_|with_reducible refine B_drewN ?_ _|with_reducible refine B_set ?_ (by simp;omega) _)
   have hzs:WZ.heap.size=wr.heap.size+2:=by rw[hWZ];simp
   have z0:WZ.heap[wr.heap.size]?=some (.cells #[.int .i64 kd, .string nm, .string ot, .string pl, .int .i64 dy, .int .i64 tl, .int .i64 nu, .int .i64 de] 67):=by rw[hWZ];exact J_alloc (J_new _ _ _ rfl)
   have z1:WZ.heap[wr.heap.size+1]?=some (.cells #[.string pl, .int .i64 dy] 187):=by rw[hWZ];exact J_new _ _ _ (by simp)
   go_upto_region 7 with fail
   rw[<-hWZ]
   have HWZ:=Lib.hid hWZ
   have HBZ:=Lib.hid hBZ
   clear hWZ i0 i1 i2 i3 i4 i5 i6 i7 hBZ
   have y0:WZ.cell? ⟨wr.heap.size,0,none⟩=some (.int .i64 kd):=by simp only[World.cell?,z0];rfl
   have y1:WZ.cell? ⟨wr.heap.size,1,none⟩=some (.string nm):=by simp only[World.cell?,z0];rfl
   have x0:WZ.cell? ⟨wr.heap.size+1,0,none⟩=some (.string pl):=by simp only[World.cell?,z1];rfl
   have x1:WZ.cell? ⟨wr.heap.size+1,1,none⟩=some (.int .i64 dy):=by simp only[World.cell?,z1];rfl
   have HZ0:=Lib.hid z0
   have HZ1:=Lib.hid z1
   clear z0 z1
   have hBW:Below w.heap.size w WZ:=HB.out.trans (HBZ.out.mono hbs)
   have HBW:=Lib.hid hBW
   clear hBW
   by_cases hkd:kd=3
   ·subst hkd
    have hso:=share_ok HXO.out rfl
    have hd1:1<=de:=hso.d1
    have hd2:de<=12:=hso.d2
    obtain⟨v0,hv0⟩: ∃v0,(mget eqSp (pl,dy) ms).getD 0=v0:=⟨_,rfl⟩
    obtain⟨q,hq⟩: ∃q,27720/de=q:=⟨_,rfl⟩
    have hbd:=sums_bd HSU.out HSM.out HNP.out (pl,dy)
    have hub:=unit_bd hso
    have hun:unitR ⟨3,nm,ot,pl,dy,tl,nu,de⟩=nu*q:=by rw[<-hq];rfl
    rw[hv0]at hbd
    rw[hun]at hub
    have hde0: ¬de=0:=by omega
    have htd:Int.tdiv 27720 de=q:=by rw[Int.tdiv_eq_ediv_of_nonneg (by decide),hq]
    have hqb:0<=q/\q<=27720:=⟨by rw[<-hq];exact Int.ediv_nonneg (by decide) (by omega),by rw[<-hq];exact Int.ediv_le_self _ (by decide)⟩
    have hw1:IntKind.i64.wrap q=q:=by rw[IntKind.wrap_i64];omega
    have hw2:IntKind.i64.wrap (nu*q)=nu*q:=by rw[IntKind.wrap_i64];omega
    have hw3:IntKind.i64.wrap (v0+nu*q)=v0+nu*q:=by rw[IntKind.wrap_i64];omega
    have HV0:=Lib.hid hv0
    obtain⟨mc,q1m,q2m,q3m⟩:=HCN.out
    have hq1: ∀q',(Instr.lookup 185 (.map (some (w.heap.size+1))) (.agg #[.string pl, .int .i64 dy]) false).run Tryz.prog (WZ.drewN q')= .ok ((mget eqSp (pl,dy) mc).getD (.map none)) (WZ.drewN q'):=fun q'=>run_lookup mapPM (q1m.keep (w':=WZ.drewN q') (HBZ.out.block _ q1m.at.lt)).at (pl,dy)
    have hv:=q2m (pl,dy)
    have HQ1:=Lib.hid q1m
    have HQ2:=Lib.hid q2m
    have HQ3:=Lib.hid q3m
    clear q1m q2m q3m
    have HGO:Hid (nm∉toldS (pl,dy) pre->((27720<v0+nu*q->R=true)/\(v0+nu*q<=27720->SumsOk (mput eqSp (pl,dy) (v0+nu*q) ms) (l.take (k+1))/\SmallOk (l.take (k+1))))):=fun hn=>by
     refine⟨fun h=> ?_,fun h=> ?_⟩
     ·rw[HR.out]
      have hnn:=HNN.out
      rw[HSP.out]at hnn
      have hmu:=much_put HSU.out hso rfl hn hnn (by rw[hun];show _<(mget eqSp (pl,dy) ms).getD 0+_;rw[HV0.out];exact h)
      rw[<-HSP.out]at hmu
      exact decide_eq_true hmu
     ·have h1:=sums_put HSU.out hso rfl hn
      have h2:=small_put HSU.out HSM.out hso rfl hn (by rw[hun];show(mget eqSp (pl,dy) ms).getD 0+_<=_;rw[HV0.out];exact h)
      have e:(mget eqSp (spotR ⟨3,nm,ot,pl,dy,tl,nu,de⟩) ms).getD 0=v0:=HV0.out
      rw[e,hun]at h1
      rw[HSN.out]
      exact⟨h1,h2⟩
    have HUN:=Lib.hid hun
    have HSO:=Lib.hid hso
    clear hv0 hq hun hso hqb
    rcases hv with⟨hv,h0⟩|⟨kk,T,hv,hkb,hkm,hT⟩<;>(rw[hv]at hq1;simp only[Option.getD_none,Option.getD_some]at hq1)
    ·have HNT:Hid (nm∉toldS (pl,dy) pre):=by show _∉_;rw[h0];simp
     have HTRUE:=Lib.hid (HGO.out HNT.out).1
     have HNEXT:=Lib.hid (HGO.out HNT.out).2
     have hq2: ∀q',(Instr.lookup 87 (.map none) (.string nm) false).run Tryz.prog (WZ.drewN q')= .ok (.bool false) (WZ.drewN q'):=fun q'=>lookup_none _ _
     have H0:=Lib.hid h0
     have hmm:= @run_makeMap Tryz.prog
     clear h0 hv
     go_quiet (fail)
     clear hq2
     have hne5: ∀W,(binOp .eql 87 (.map none) (.map none)).run Tryz.prog W= .ok (.bool true) W:=eql_map0
     have hBN:Below wr.heap.size wr ((WZ.drewN nq).alloc (.map #[] 0)):=HBZ.out.trans ((B_alloc (B_drewN (Below.refl _ _) _) _ (Nat.le_refl _)).mono (by omega))
     have HBN:=Lib.hid hBN
     have HZS:=Lib.hid hzs
     clear hBN hzs
     go_upto_region 10 with
      (at_mapUpdate
       obtain⟨w1,hrun,hm1,hg1,hs1⟩:=run_updateS (P:=Tryz.prog) mapPM (HQ1.out.below HBN.out) (pl,dy) (.map (some WZ.heap.size))
       go_loud(refine wpList_update_run rfl _ _ _ rfl _ _ _ rfl rfl rfl w1 hrun ?_))
     clear hmm hq1 hne5
     have hzs:=HZS.out
     have hs1':w1.heap.size=WZ.heap.size+1:=by rw[hs1];simp[World.drewN]
     have hN5:((WZ.drewN nq).alloc (.map #[] 0)).heap[WZ.heap.size]?=some (.map #[] 0):=J_new _ _ _ (by simp[World.drewN])
     have hFN: ∀j,j<WZ.heap.size+1->j≠w.heap.size+1->w1.heap[j]?=((WZ.drewN nq).alloc (.map #[] 0)).heap[j]?:=fun j hj hne=>hg1.block j (by simp[World.drewN];exact hj) (by simpa using hne)
     have hcb:w.heap.size+1≠wr.heap.size/\w.heap.size+1≠wr.heap.size+1:=by omega
     have hz0:w1.heap[wr.heap.size]?=_:=(hFN _ (by omega) (by omega)).trans ((J_alloc (w:=WZ.drewN nq) HZ0.out))
     have hz1:w1.heap[wr.heap.size+1]?=_:=(hFN _ (by omega) (by omega)).trans ((J_alloc (w:=WZ.drewN nq) HZ1.out))
     have hFW: ∀j,j<wr.heap.size->j≠w.heap.size+1->w1.heap[j]?=wr.heap[j]?:=fun j hj hne=>(hFN j (by omega) hne).trans (HBN.out.block j hj)
     have hLOW:Below w.heap.size w w1:=grown_below ((HB.out.trans (HBN.out.mono hbs))) hg1 (by omega)
     have hmid:MidAt w w1 wr.heap.size nm ot pl dy 3 tl nu de pre ms (mput eqSp (pl,dy) (.map (some WZ.heap.size)) mc) WZ.heap.size []:=mid_new HQ2.out HQ3.out H0.out hz0 hz1 (HMS.out.keep (hFW _ HMS.out.at.lt (by omega))) hm1 (by omega) hsz ⟨#[],0,(hFN _ (by omega) (by omega)).trans hN5,rfl,by simp,by simp⟩ hFW hLOW (by omega)
     have HMID:=Lib.hid hmid
     clear hmid hLOW hFW hz1 hz0 hcb hFN hN5 hs1 hg1 hm1
     generalize WZ.heap.size=kk at*
     generalize mput eqSp (pl,dy) (.map (some kk)) mc=mc5 at*
     generalize([]:List ByteArray)=T at HMID
     have hWY: ∃WY,WY=w1:=⟨_,rfl⟩
     obtain⟨WY,rfl⟩:=hWY
     clear hzs hs1'
     have hM:=HMID.out
     have hsy:=hM.size
     obtain⟨ek5,ec5,hkk5⟩:=mapS_block hM.map
     obtain⟨es5,sc5,hss5⟩:=mapS_block hM.sums
     have hneO:kk≠wr.heap.size:=fun e=>by have:=hM.rec5;rw[<-e,hkk5]at this;cases this
     have hneO1:kk≠wr.heap.size+1:=fun e=>by have:=hM.spot;rw[<-e,hkk5]at this;cases this
     have hneS:w.heap.size≠wr.heap.size:=fun e=>by have:=hM.rec5;rw[<-e,hss5]at this;cases this
     have hneS1:w.heap.size≠wr.heap.size+1:=fun e=>by have:=hM.spot;rw[<-e,hss5]at this;cases this
     have hkb:=hM.kb
     have hsf1:(false=true\/(WY.drew.cell? ⟨wr.heap.size+1,0,none⟩=some (.string pl)/\WY.drew.cell? ⟨wr.heap.size+1,1,none⟩=some (.int .i64 dy)/\WY.drew.cell? ⟨wr.heap.size,1,none⟩=some (.string nm)/\(Instr.lookup 185 (.map (some (w.heap.size+1))) (.agg #[.string pl, .int .i64 dy]) false).run Tryz.prog WY.drew= .ok (.map (some kk)) WY.drew)):=by
      have h1:WY.drew.heap[wr.heap.size]?=_:=hM.rec5
      have h2:WY.drew.heap[wr.heap.size+1]?=_:=hM.spot
      refine .inr ⟨by simp only[World.cell?,h2];rfl,by simp only[World.cell?,h2];rfl,by simp only[World.cell?,h1];rfl,?_⟩
      have:=run_lookup mapPM (hM.cnt.keep (w':=WY.drew) rfl).at (pl,dy)
      rw[hM.at5]at this
      exact this
     obtain⟨w5,hr5,hm5,hg5,hz5⟩:=run_updateS (P:=Tryz.prog) mapSB (hM.map.keep (w':=WY.drew) rfl) nm true
     have hnT:nm∉T:=fun h=>HNT.out ((hM.told nm).1 h)
     rw[out_put hnT]at hm5
     have hF5: ∀j,j<WY.heap.size->j≠kk->w5.heap[j]?=WY.heap[j]?:=fun j hj hne=>hg5.block j hj (by simpa using hne)
     have hO5:=(hF5 wr.heap.size (by omega) (fun e=>hneO e.symm)).trans hM.rec5
     have hP5:=(hF5 (wr.heap.size+1) (by omega) (fun e=>hneO1 e.symm)).trans hM.spot
     have hS5:=hM.sums.keep (hF5 w.heap.size hM.sums.at.lt (by omega))
     have hC5:CountAt w5 (w.heap.size+2) (w.heap.size+1) (pre++[⟨3,nm,ot,pl,dy,tl,nu,de⟩]):=count_put (W:=WY) (kk:=kk) (x:=⟨3,nm,ot,pl,dy,tl,nu,de⟩) rfl HNT.out (hM.cnt.keep (hF5 _ hM.cnt.at.lt (by omega))) hM.rows hM.inj hM.at5 hkb hM.told hm5 (fun j hj hne _ _ _ _=>hF5 j hj hne)
     have hB5:Below w.heap.size w w5:=⟨hg5.os.trans hM.low.os,hg5.tape.trans hM.low.tape,hg5.output.trans hM.low.output,by have:=hM.low.size;have:WY.drew.heap.size=WY.heap.size:=rfl;omega,fun j hj=>(hF5 j (by have:=hM.low.size;omega) (by omega)).trans (hM.low.block j hj)⟩
     have hz5':w5.heap.size=WY.heap.size:=hz5
     have HC5:=Lib.hid hC5
     have HB5:=Lib.hid hB5
     clear hF5 hg5 hC5 hB5 hM HMID hss5 hkk5
     refine wp_region_mark 5 (fun bb w'=>bb=true\/(w'.cell? ⟨wr.heap.size+1,0,none⟩=some (.string pl)/\w'.cell? ⟨wr.heap.size+1,1,none⟩=some (.int .i64 dy)/\w'.cell? ⟨wr.heap.size,1,none⟩=some (.string nm)/\(Instr.lookup 185 (.map (some (w.heap.size+1))) (.agg #[.string pl, .int .i64 dy]) false).run Tryz.prog w'= .ok (.map (some kk)) w')) (by kernel_rfl) hsf1 ?hrest
     case hrest=>
      intro hHeld
      refine TkM 0 ?_
      refine TkM 1 ?_
      refine TkM 2 ?_
      refine TkM 3 ?_
      refine TkM 4 ?_
      refine wpAnyM_ready (rs:=[5]) (by kernel_rfl) (by simp) (AllReadyM.cons (List.getElem?_toArray.trans rfl) true (by kernel_rfl) (fun K hK=> ?_) AllReadyM.nil)
      refine step_update rfl _ _ _ rfl _ _ _ rfl rfl rfl w5 hr5 ?_
      refine hK.out _ _ ?_ (fun hHeld=> ?_)
      focus((try dsimp only);exact .inl rfl)
      clear hK K
      try simp only[Act.put,List.setIfInBounds_toArray,List.set_cons_zero,List.set_cons_succ]
      refine wpAnyM_done (by kernel_rfl) ?_ _
      clear hHeld hr5 hm5 hsf1 hz5
      go_upto_region 11 with fail
      have hV5:=mapS_val.1 hS5
      have hg0:=val_get (pl,dy) ms
      have hsf2:(false=true\/(w5.drew.cell? ⟨wr.heap.size+1,0,none⟩=some (.string pl)/\w5.drew.cell? ⟨wr.heap.size+1,1,none⟩=some (.int .i64 dy)/\w5.drew.cell? ⟨wr.heap.size,6,none⟩=some (.int .i64 nu)/\w5.drew.cell? ⟨wr.heap.size,7,none⟩=some (.int .i64 de)/\(Instr.lookup 184 (.map (some w.heap.size)) (.agg #[.string pl, .int .i64 dy]) false).run Tryz.prog w5.drew= .ok (.int .i64 v0) w5.drew)):=by
       have h1:w5.drew.heap[wr.heap.size]?=_:=hO5
       have h2:w5.drew.heap[wr.heap.size+1]?=_:=hP5
       refine .inr ⟨by simp only[World.cell?,h2];rfl,by simp only[World.cell?,h2];rfl,by simp only[World.cell?,h1];rfl,by simp only[World.cell?,h1];rfl,?_⟩
       have:=run_lookup mapPV (hV5.keep (w':=w5.drew) rfl).at (pl,dy)
       rw[hg0,HV0.out]at this
       exact this
      rw[HV0.out]at hg0
      obtain⟨w6,st,jj,hr6,hs6,hset6,hk6,hg6,hz6⟩:=run_mapEntryX (P:=Tryz.prog) mapPV (hV5.keep (w':=w5.drew) rfl) (pl,dy)
      rw[hg0]at hr6 hs6 hset6 hk6
      have hF6: ∀j,j<w5.heap.size->j≠w.heap.size->w6.heap[j]?=w5.heap[j]?:=fun j hj hne=>hg6.block j hj (by simpa using hne)
      have hsf3:(false=true\/(w6.cell? ⟨wr.heap.size+1,0,none⟩=some (.string pl)/\w6.cell? ⟨wr.heap.size+1,1,none⟩=some (.int .i64 dy)/\w6.cell? ⟨wr.heap.size,6,none⟩=some (.int .i64 nu)/\w6.cell? ⟨wr.heap.size,7,none⟩=some (.int .i64 de)/\(Instr.lookup 184 (.map (some w.heap.size)) (.agg #[.string pl, .int .i64 dy]) false).run Tryz.prog w6= .ok (.int .i64 v0) w6)):=by
       have h1:=(hF6 wr.heap.size (by omega) (fun e=>hneS e.symm)).trans hO5
       have h2:=(hF6 (wr.heap.size+1) (by omega) (fun e=>hneS1 e.symm)).trans hP5
       refine .inr ⟨by simp only[World.cell?,h2];rfl,by simp only[World.cell?,h2];rfl,by simp only[World.cell?,h1];rfl,by simp only[World.cell?,h1];rfl,?_⟩
       have:=run_lookup mapPV hs6.mapAt (pl,dy)
       rw[mget_mputSp,eqSp_refl,if_pos rfl]at this
       exact this
      obtain⟨w7,hr7,hm7,hg7,hz7⟩:=run_entryStoreS (P:=Tryz.prog) hs6 hk6 184 (.int .i64 (v0+nu*q))
      rw[hset6]at hm7
      have hm7':MapS w7 w.heap.size ekSp evI (mput eqSp (pl,dy) (v0+nu*q) ms):=mapS_val.2 (by rw[mput_val];exact hm7)
      have hz7':w7.heap.size=w5.heap.size:=hz7.trans hz6
      have hF7: ∀j,j<w5.heap.size->j≠w.heap.size->w7.heap[j]?=w5.heap[j]?:=fun j hj hne=>(hg7.block j (by have:w5.drew.heap.size=w5.heap.size:=rfl;omega) (by simpa using hne)).trans (hF6 j hj hne)
      have hlk7:(Instr.lookup 184 (.map (some w.heap.size)) (.agg #[.string pl, .int .i64 dy]) false).run Tryz.prog w7= .ok (.int .i64 (v0+nu*q)) w7:=by
       have:=run_lookup mapPV hm7.at (pl,dy)
       rw[mget_mputSp,eqSp_refl,if_pos rfl]at this
       exact this
      have hP7:=(hF7 (wr.heap.size+1) (by omega) (fun e=>hneS1 e.symm)).trans hP5
      have j0:w7.cell? ⟨wr.heap.size+1,0,none⟩=some (.string pl):=by simp only[World.cell?,hP7];rfl
      have j1:w7.cell? ⟨wr.heap.size+1,1,none⟩=some (.int .i64 dy):=by simp only[World.cell?,hP7];rfl
      have hC7:CountAt w7 (w.heap.size+2) (w.heap.size+1) (pre++[⟨3,nm,ot,pl,dy,tl,nu,de⟩]):=count_keep HC5.out (hF7 _ (by omega) (by omega)) (fun j hj hb=>hF7 j hj (by omega))
      have hB7:Below w.heap.size w w7:=⟨hg7.os.trans (hg6.os.trans HB5.out.os),hg7.tape.trans (hg6.tape.trans HB5.out.tape),hg7.output.trans (hg6.output.trans HB5.out.output),by have:=HB5.out.size;omega,fun j hj=>(hF7 j (by have:=HB5.out.size;omega) (by omega)).trans (HB5.out.block j hj)⟩
      have HC7:=Lib.hid hC7
      have HB7:=Lib.hid hB7
      have HM7:=Lib.hid hm7'
      clear hC7 hB7 hm7' hm7 hF7 hF6 hg7 hg6 hP7
      refine wp_region_mark 14 (fun bb w'=>bb=true\/(w'.cell? ⟨wr.heap.size+1,0,none⟩=some (.string pl)/\w'.cell? ⟨wr.heap.size+1,1,none⟩=some (.int .i64 dy)/\w'.cell? ⟨wr.heap.size,6,none⟩=some (.int .i64 nu)/\w'.cell? ⟨wr.heap.size,7,none⟩=some (.int .i64 de)/\(Instr.lookup 184 (.map (some w.heap.size)) (.agg #[.string pl, .int .i64 dy]) false).run Tryz.prog w'= .ok (.int .i64 v0) w')) (by kernel_rfl) hsf2 ?hrest
      case hrest=>
       intro hHeld
       refine TkM 0 ?_
       refine TkM 1 ?_
       refine TkM 2 ?_
       refine TkM 3 ?_
       refine TkM 4 ?_
       refine TkM 5 ?_
       refine TkM 6 ?_
       refine TkM 7 ?_
       refine TkM 8 ?_
       refine TkM 9 ?_
       refine TkM 10 ?_
       refine TkM 11 ?_
       refine wpAnyM_ready (rs:=[12]) (by kernel_rfl) (by simp) (AllReadyM.cons (List.getElem?_toArray.trans rfl) false (by kernel_rfl) (fun K hK=> ?_) AllReadyM.nil)
       refine step_entry rfl _ _ rfl _ _ _ rfl rfl w6 hr6 ?_
       refine hK.out _ _ ?_ (fun hHeld=> ?_)
       focus((try dsimp only);exact hsf3)
       clear hK K
       try simp only[Act.put,List.setIfInBounds_toArray,List.set_cons_zero,List.set_cons_succ]
       refine wpAnyM_ready (rs:=[13]) (by kernel_rfl) (by simp) (AllReadyM.cons (List.getElem?_toArray.trans rfl) false (by kernel_rfl) (fun K hK=> ?_) AllReadyM.nil)
       go_simp
       refine hK.out _ _ ?_ (fun hHeld=> ?_)
       focus((try dsimp only);exact hsf3)
       clear hK K
       try simp only[Act.put,List.setIfInBounds_toArray,List.set_cons_zero,List.set_cons_succ]
       refine wpAnyM_ready (rs:=[14]) (by kernel_rfl) (by simp) (AllReadyM.cons (List.getElem?_toArray.trans rfl) true (by kernel_rfl) (fun K hK=> ?_) AllReadyM.nil)
       refine step_estore rfl _ _ _ rfl _ _ _ rfl rfl rfl w7 hr7 ?_
       refine hK.out _ _ ?_ (fun hHeld=> ?_)
       focus((try dsimp only);exact .inl rfl)
       clear hK K
       try simp only[Act.put,List.setIfInBounds_toArray,List.set_cons_zero,List.set_cons_succ]
       refine wpAnyM_done (by kernel_rfl) ?_ _
       clear hHeld hr7 hr6 hsf2 hsf3 hs6 hset6 hk6 hV5 hg0 hO5 hP5 hS5
       by_cases hv:27720<v0+nu*q
       ·have HRF:Hid (R=true):=HTRUE.out hv
        go_wp2_with fail
        go_ret
        exact Ret.of (bool_eq HRF.out.symm) (HB7.out.trans (Below.mono Bw HB7.out.size))
       ·have hnx:=HNEXT.out (by omega)
        have HNX:=Lib.hid hnx
        clear hnx
        go_wp2_with fail
        go_round
        case rel=>exact⟨k+1,_,HLT.out,by go_num,HM7.out,HNX.out.1,HNX.out.2,by rw[HSN.out];exact HC7.out,HB7.out,by omega⟩
        case measure=>have:=HLT.out;simp only[intOf];omega
    ·have hlk91: ∀q',(Instr.lookup 87 (.map (some kk)) (.string nm) false).run Tryz.prog (WZ.drewN q')= .ok (.bool (T.any (sameB nm))) (WZ.drewN q'):=fun q'=>by
      have:=run_lookup mapSB (hkm.keep (w':=WZ.drewN q') (HBZ.out.block kk hkm.at.lt)).at nm
      rw[out_get]at this
      exact this
     cases htb:T.any (sameB nm)
     ·have hnT:nm∉toldS (pl,dy) pre:=fun h=>by rw[any_same.2 ((hT nm).2 h)]at htb;cases htb
      have HNT:=Lib.hid hnT
      have HTRUE:=Lib.hid (HGO.out HNT.out).1
      have HNEXT:=Lib.hid (HGO.out HNT.out).2
      have HTT:=Lib.hid hT
      have HKM:=Lib.hid hkm
      have HV:=Lib.hid hv
      rw[htb]at hlk91
      clear htb hnT hT hkm hv
      go_quiet (fail)
      clear hlk91
      have hne5: ∀W,(binOp .eql 87 (.map (some kk)) (.map none)).run Tryz.prog W= .ok (.bool false) W:=eql_map kk
      go_upto_region 10 with fail
      clear hq1 hne5
      have hBQ:Below wr.heap.size wr (WZ.drewN nq):=B_drewN HBZ.out _
      have hmid:MidAt w (WZ.drewN nq) wr.heap.size nm ot pl dy 3 tl nu de pre ms mc kk T:=
       ⟨HZ0.out,HZ1.out,HMS.out.below hBQ,HQ1.out.below hBQ,fun s=>(HQ2.out s).imp id fun⟨k,T,e1,e2,e3,e4⟩=>⟨k,T,e1,e2,e3.below hBQ,e4⟩,HQ3.out,HV.out,hkb,HKM.out.below hBQ,HTT.out,B_drewN HBW.out _,by simp[World.drewN];omega⟩
      have HMID:=Lib.hid hmid
      clear hmid hBQ
      generalize WZ.drewN nq=WY at*
      have hM:=HMID.out
      have hsy:=hM.size
      obtain⟨ek5,ec5,hkk5⟩:=mapS_block hM.map
      obtain⟨es5,sc5,hss5⟩:=mapS_block hM.sums
      have hneO:kk≠wr.heap.size:=fun e=>by have:=hM.rec5;rw[<-e,hkk5]at this;cases this
      have hneO1:kk≠wr.heap.size+1:=fun e=>by have:=hM.spot;rw[<-e,hkk5]at this;cases this
      have hneS:w.heap.size≠wr.heap.size:=fun e=>by have:=hM.rec5;rw[<-e,hss5]at this;cases this
      have hneS1:w.heap.size≠wr.heap.size+1:=fun e=>by have:=hM.spot;rw[<-e,hss5]at this;cases this
      have hkb:=hM.kb
      have hsf1:(false=true\/(WY.drew.cell? ⟨wr.heap.size+1,0,none⟩=some (.string pl)/\WY.drew.cell? ⟨wr.heap.size+1,1,none⟩=some (.int .i64 dy)/\WY.drew.cell? ⟨wr.heap.size,1,none⟩=some (.string nm)/\(Instr.lookup 185 (.map (some (w.heap.size+1))) (.agg #[.string pl, .int .i64 dy]) false).run Tryz.prog WY.drew= .ok (.map (some kk)) WY.drew)):=by
       have h1:WY.drew.heap[wr.heap.size]?=_:=hM.rec5
       have h2:WY.drew.heap[wr.heap.size+1]?=_:=hM.spot
       refine .inr ⟨by simp only[World.cell?,h2];rfl,by simp only[World.cell?,h2];rfl,by simp only[World.cell?,h1];rfl,?_⟩
       have:=run_lookup mapPM (hM.cnt.keep (w':=WY.drew) rfl).at (pl,dy)
       rw[hM.at5]at this
       exact this
      obtain⟨w5,hr5,hm5,hg5,hz5⟩:=run_updateS (P:=Tryz.prog) mapSB (hM.map.keep (w':=WY.drew) rfl) nm true
      have hnT:nm∉T:=fun h=>HNT.out ((hM.told nm).1 h)
      rw[out_put hnT]at hm5
      have hF5: ∀j,j<WY.heap.size->j≠kk->w5.heap[j]?=WY.heap[j]?:=fun j hj hne=>hg5.block j hj (by simpa using hne)
      have hO5:=(hF5 wr.heap.size (by omega) (fun e=>hneO e.symm)).trans hM.rec5
      have hP5:=(hF5 (wr.heap.size+1) (by omega) (fun e=>hneO1 e.symm)).trans hM.spot
      have hS5:=hM.sums.keep (hF5 w.heap.size hM.sums.at.lt (by omega))
      have hC5:CountAt w5 (w.heap.size+2) (w.heap.size+1) (pre++[⟨3,nm,ot,pl,dy,tl,nu,de⟩]):=count_put (W:=WY) (kk:=kk) (x:=⟨3,nm,ot,pl,dy,tl,nu,de⟩) rfl HNT.out (hM.cnt.keep (hF5 _ hM.cnt.at.lt (by omega))) hM.rows hM.inj hM.at5 hkb hM.told hm5 (fun j hj hne _ _ _ _=>hF5 j hj hne)
      have hB5:Below w.heap.size w w5:=⟨hg5.os.trans hM.low.os,hg5.tape.trans hM.low.tape,hg5.output.trans hM.low.output,by have:=hM.low.size;have:WY.drew.heap.size=WY.heap.size:=rfl;omega,fun j hj=>(hF5 j (by have:=hM.low.size;omega) (by omega)).trans (hM.low.block j hj)⟩
      have hz5':w5.heap.size=WY.heap.size:=hz5
      have HC5:=Lib.hid hC5
      have HB5:=Lib.hid hB5
      clear hF5 hg5 hC5 hB5 hM HMID hss5 hkk5
      refine wp_region_mark 5 (fun bb w'=>bb=true\/(w'.cell? ⟨wr.heap.size+1,0,none⟩=some (.string pl)/\w'.cell? ⟨wr.heap.size+1,1,none⟩=some (.int .i64 dy)/\w'.cell? ⟨wr.heap.size,1,none⟩=some (.string nm)/\(Instr.lookup 185 (.map (some (w.heap.size+1))) (.agg #[.string pl, .int .i64 dy]) false).run Tryz.prog w'= .ok (.map (some kk)) w')) (by kernel_rfl) hsf1 ?hrest
      case hrest=>
       intro hHeld
       refine TkM 0 ?_
       refine TkM 1 ?_
       refine TkM 2 ?_
       refine TkM 3 ?_
       refine TkM 4 ?_
       refine wpAnyM_ready (rs:=[5]) (by kernel_rfl) (by simp) (AllReadyM.cons (List.getElem?_toArray.trans rfl) true (by kernel_rfl) (fun K hK=> ?_) AllReadyM.nil)
       refine step_update rfl _ _ _ rfl _ _ _ rfl rfl rfl w5 hr5 ?_
       refine hK.out _ _ ?_ (fun hHeld=> ?_)
       focus((try dsimp only);exact .inl rfl)
       clear hK K
       try simp only[Act.put,List.setIfInBounds_toArray,List.set_cons_zero,List.set_cons_succ]
       refine wpAnyM_done (by kernel_rfl) ?_ _
       clear hHeld hr5 hm5 hsf1 hz5
       go_upto_region 11 with fail
       have hV5:=mapS_val.1 hS5
       have hg0:=val_get (pl,dy) ms
       have hsf2:(false=true\/(w5.drew.cell? ⟨wr.heap.size+1,0,none⟩=some (.string pl)/\w5.drew.cell? ⟨wr.heap.size+1,1,none⟩=some (.int .i64 dy)/\w5.drew.cell? ⟨wr.heap.size,6,none⟩=some (.int .i64 nu)/\w5.drew.cell? ⟨wr.heap.size,7,none⟩=some (.int .i64 de)/\(Instr.lookup 184 (.map (some w.heap.size)) (.agg #[.string pl, .int .i64 dy]) false).run Tryz.prog w5.drew= .ok (.int .i64 v0) w5.drew)):=by
        have h1:w5.drew.heap[wr.heap.size]?=_:=hO5
        have h2:w5.drew.heap[wr.heap.size+1]?=_:=hP5
        refine .inr ⟨by simp only[World.cell?,h2];rfl,by simp only[World.cell?,h2];rfl,by simp only[World.cell?,h1];rfl,by simp only[World.cell?,h1];rfl,?_⟩
        have:=run_lookup mapPV (hV5.keep (w':=w5.drew) rfl).at (pl,dy)
        rw[hg0,HV0.out]at this
        exact this
       rw[HV0.out]at hg0
       obtain⟨w6,st,jj,hr6,hs6,hset6,hk6,hg6,hz6⟩:=run_mapEntryX (P:=Tryz.prog) mapPV (hV5.keep (w':=w5.drew) rfl) (pl,dy)
       rw[hg0]at hr6 hs6 hset6 hk6
       have hF6: ∀j,j<w5.heap.size->j≠w.heap.size->w6.heap[j]?=w5.heap[j]?:=fun j hj hne=>hg6.block j hj (by simpa using hne)
       have hsf3:(false=true\/(w6.cell? ⟨wr.heap.size+1,0,none⟩=some (.string pl)/\w6.cell? ⟨wr.heap.size+1,1,none⟩=some (.int .i64 dy)/\w6.cell? ⟨wr.heap.size,6,none⟩=some (.int .i64 nu)/\w6.cell? ⟨wr.heap.size,7,none⟩=some (.int .i64 de)/\(Instr.lookup 184 (.map (some w.heap.size)) (.agg #[.string pl, .int .i64 dy]) false).run Tryz.prog w6= .ok (.int .i64 v0) w6)):=by
        have h1:=(hF6 wr.heap.size (by omega) (fun e=>hneS e.symm)).trans hO5
        have h2:=(hF6 (wr.heap.size+1) (by omega) (fun e=>hneS1 e.symm)).trans hP5
        refine .inr ⟨by simp only[World.cell?,h2];rfl,by simp only[World.cell?,h2];rfl,by simp only[World.cell?,h1];rfl,by simp only[World.cell?,h1];rfl,?_⟩
        have:=run_lookup mapPV hs6.mapAt (pl,dy)
        rw[mget_mputSp,eqSp_refl,if_pos rfl]at this
        exact this
       obtain⟨w7,hr7,hm7,hg7,hz7⟩:=run_entryStoreS (P:=Tryz.prog) hs6 hk6 184 (.int .i64 (v0+nu*q))
       rw[hset6]at hm7
       have hm7':MapS w7 w.heap.size ekSp evI (mput eqSp (pl,dy) (v0+nu*q) ms):=mapS_val.2 (by rw[mput_val];exact hm7)
       have hz7':w7.heap.size=w5.heap.size:=hz7.trans hz6
       have hF7: ∀j,j<w5.heap.size->j≠w.heap.size->w7.heap[j]?=w5.heap[j]?:=fun j hj hne=>(hg7.block j (by have:w5.drew.heap.size=w5.heap.size:=rfl;omega) (by simpa using hne)).trans (hF6 j hj hne)
       have hlk7:(Instr.lookup 184 (.map (some w.heap.size)) (.agg #[.string pl, .int .i64 dy]) false).run Tryz.prog w7= .ok (.int .i64 (v0+nu*q)) w7:=by
        have:=run_lookup mapPV hm7.at (pl,dy)
        rw[mget_mputSp,eqSp_refl,if_pos rfl]at this
        exact this
       have hP7:=(hF7 (wr.heap.size+1) (by omega) (fun e=>hneS1 e.symm)).trans hP5
       have j0:w7.cell? ⟨wr.heap.size+1,0,none⟩=some (.string pl):=by simp only[World.cell?,hP7];rfl
       have j1:w7.cell? ⟨wr.heap.size+1,1,none⟩=some (.int .i64 dy):=by simp only[World.cell?,hP7];rfl
       have hC7:CountAt w7 (w.heap.size+2) (w.heap.size+1) (pre++[⟨3,nm,ot,pl,dy,tl,nu,de⟩]):=count_keep HC5.out (hF7 _ (by omega) (by omega)) (fun j hj hb=>hF7 j hj (by omega))
       have hB7:Below w.heap.size w w7:=⟨hg7.os.trans (hg6.os.trans HB5.out.os),hg7.tape.trans (hg6.tape.trans HB5.out.tape),hg7.output.trans (hg6.output.trans HB5.out.output),by have:=HB5.out.size;omega,fun j hj=>(hF7 j (by have:=HB5.out.size;omega) (by omega)).trans (HB5.out.block j hj)⟩
       have HC7:=Lib.hid hC7
       have HB7:=Lib.hid hB7
       have HM7:=Lib.hid hm7'
       clear hC7 hB7 hm7' hm7 hF7 hF6 hg7 hg6 hP7
       refine wp_region_mark 14 (fun bb w'=>bb=true\/(w'.cell? ⟨wr.heap.size+1,0,none⟩=some (.string pl)/\w'.cell? ⟨wr.heap.size+1,1,none⟩=some (.int .i64 dy)/\w'.cell? ⟨wr.heap.size,6,none⟩=some (.int .i64 nu)/\w'.cell? ⟨wr.heap.size,7,none⟩=some (.int .i64 de)/\(Instr.lookup 184 (.map (some w.heap.size)) (.agg #[.string pl, .int .i64 dy]) false).run Tryz.prog w'= .ok (.int .i64 v0) w')) (by kernel_rfl) hsf2 ?hrest
       case hrest=>
        intro hHeld
        refine TkM 0 ?_
        refine TkM 1 ?_
        refine TkM 2 ?_
        refine TkM 3 ?_
        refine TkM 4 ?_
        refine TkM 5 ?_
        refine TkM 6 ?_
        refine TkM 7 ?_
        refine TkM 8 ?_
        refine TkM 9 ?_
        refine TkM 10 ?_
        refine TkM 11 ?_
        refine wpAnyM_ready (rs:=[12]) (by kernel_rfl) (by simp) (AllReadyM.cons (List.getElem?_toArray.trans rfl) false (by kernel_rfl) (fun K hK=> ?_) AllReadyM.nil)
        refine step_entry rfl _ _ rfl _ _ _ rfl rfl w6 hr6 ?_
        refine hK.out _ _ ?_ (fun hHeld=> ?_)
        focus((try dsimp only);exact hsf3)
        clear hK K
        try simp only[Act.put,List.setIfInBounds_toArray,List.set_cons_zero,List.set_cons_succ]
        refine wpAnyM_ready (rs:=[13]) (by kernel_rfl) (by simp) (AllReadyM.cons (List.getElem?_toArray.trans rfl) false (by kernel_rfl) (fun K hK=> ?_) AllReadyM.nil)
        go_simp
        refine hK.out _ _ ?_ (fun hHeld=> ?_)
        focus((try dsimp only);exact hsf3)
        clear hK K
        try simp only[Act.put,List.setIfInBounds_toArray,List.set_cons_zero,List.set_cons_succ]
        refine wpAnyM_ready (rs:=[14]) (by kernel_rfl) (by simp) (AllReadyM.cons (List.getElem?_toArray.trans rfl) true (by kernel_rfl) (fun K hK=> ?_) AllReadyM.nil)
        refine step_estore rfl _ _ _ rfl _ _ _ rfl rfl rfl w7 hr7 ?_
        refine hK.out _ _ ?_ (fun hHeld=> ?_)
        focus((try dsimp only);exact .inl rfl)
        clear hK K
        try simp only[Act.put,List.setIfInBounds_toArray,List.set_cons_zero,List.set_cons_succ]
        refine wpAnyM_done (by kernel_rfl) ?_ _
        clear hHeld hr7 hr6 hsf2 hsf3 hs6 hset6 hk6 hV5 hg0 hO5 hP5 hS5
        by_cases hv:27720<v0+nu*q
        ·have HRF:Hid (R=true):=HTRUE.out hv
         go_wp2_with fail
         go_ret
         exact Ret.of (bool_eq HRF.out.symm) (HB7.out.trans (Below.mono Bw HB7.out.size))
        ·have hnx:=HNEXT.out (by omega)
         have HNX:=Lib.hid hnx
         clear hnx
         go_wp2_with fail
         go_round
         case rel=>exact⟨k+1,_,HLT.out,by go_num,HM7.out,HNX.out.1,HNX.out.2,by rw[HSN.out];exact HC7.out,HB7.out,by omega⟩
         case measure=>have:=HLT.out;simp only[intOf];omega
     ·have hin:nm∈toldS (pl,dy) pre:=(hT nm).1 (any_same.1 htb)
      have HSK:Hid (∀W,Below WZ.heap.size WZ W->(MapS W w.heap.size ekSp evI ms/\SumsOk ms (pre++[⟨3,nm,ot,pl,dy,tl,nu,de⟩])/\SmallOk (pre++[⟨3,nm,ot,pl,dy,tl,nu,de⟩])/\CountAt W (w.heap.size+2) (w.heap.size+1) (pre++[⟨3,nm,ot,pl,dy,tl,nu,de⟩])/\Below w.heap.size w W)):=fun W hW=>by
       have hc9:(Rec.mk 3 nm ot pl dy tl nu de).kind≠3\/(Rec.mk 3 nm ot pl dy tl nu de).name∈toldS (spotR ⟨3,nm,ot,pl,dy,tl,nu,de⟩) pre:= .inr hin
       have hbb:=HBZ.out.trans (hW.mono (by omega))
       exact⟨HMS.out.below hbb,sums_skip HSU.out hc9,small_skip HSM.out hc9,count_old (count_keep HCN.out (hbb.block _ HQ1.out.at.lt) (fun j hj _=>hbb.block j hj)) hc9,HBW.out.trans (hW.mono (by omega))⟩
      rw[htb]at hlk91
      clear htb hin hv hkm hT
      go_quiet (fail)
      go_wp2_with fail
      go_round
      case rel=>
       have h9:=HSK.out (WZ.drewN nq) (B_drewN (Below.refl _ _) _)
       exact⟨k+1,ms,HLT.out,by go_num,h9.1,by rw[HSN.out];exact h9.2.1,by rw[HSN.out];exact h9.2.2.1,by rw[HSN.out];exact h9.2.2.2.1,h9.2.2.2.2,by simp;omega⟩
      case measure=>have:=HLT.out;simp only[intOf];omega
   ·have HSK:Hid (∀W,Below WZ.heap.size WZ W->(MapS W w.heap.size ekSp evI ms/\SumsOk ms (pre++[⟨kd,nm,ot,pl,dy,tl,nu,de⟩])/\SmallOk (pre++[⟨kd,nm,ot,pl,dy,tl,nu,de⟩])/\CountAt W (w.heap.size+2) (w.heap.size+1) (pre++[⟨kd,nm,ot,pl,dy,tl,nu,de⟩])/\Below w.heap.size w W)):=fun W hW=>by
     have hc9:(Rec.mk kd nm ot pl dy tl nu de).kind≠3\/(Rec.mk kd nm ot pl dy tl nu de).name∈toldS (spotR ⟨kd,nm,ot,pl,dy,tl,nu,de⟩) pre:= .inl hkd
     have hbb:=HBZ.out.trans (hW.mono (by omega))
     obtain⟨mc,q1,_,_⟩:=HCN.out
     exact⟨HMS.out.below hbb,sums_skip HSU.out hc9,small_skip HSM.out hc9,count_old (count_keep HCN.out (hbb.block _ q1.at.lt) (fun j hj _=>hbb.block j hj)) hc9,HBW.out.trans (hW.mono (by omega))⟩
    go_quiet (fail)
    go_wp2_with fail
    go_round
    case rel=>
     have h9:=HSK.out (WZ.drewN nq) (B_drewN (Below.refl _ _) _)
     exact⟨k+1,ms,HLT.out,by go_num,h9.1,by rw[HSN.out];exact h9.2.1,by rw[HSN.out];exact h9.2.2.1,by rw[HSN.out];exact h9.2.2.2.1,h9.2.2.2.2,by simp;omega⟩
    case measure=>have:=HLT.out;simp only[intOf];omega
  ·have hki: ¬(k:Int)<(l.length:Int):=by omega
   have hsm:=HSM.out
   rw[List.take_of_length_le (by omega)]at hsm
   have HRF:Hid (R=false):=by show _=_;rw[HR.out];exact decide_eq_false (small_end hsm)
   have HB:=Lib.hid hB
   clear hsm hms hcn hB
   go_wp2_with fail
   go_ret
   exact Ret.of (bool_eq HRF.out.symm) (HB.out.trans (Below.mono Bw HB.out.size))
end Go.Proofs.YtmaidggpbihlgaaGreatDoor
