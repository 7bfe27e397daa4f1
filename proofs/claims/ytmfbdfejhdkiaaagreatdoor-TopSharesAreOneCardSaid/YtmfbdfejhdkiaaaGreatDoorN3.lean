/- Names are names for the program just when they are for the reference. -/
import Derived.Maps.RangeRun
import Derived.Test.YtmfbdfejhdkiaaaGreatDoorM0
set_option linter.all false
set_option maxRecDepth 100000
set_option maxHeartbeats 4000000
namespace Go.Proofs.YtmfbdfejhdkiaaaGreatDoor
open Go.RowKit
attribute [local go_sem] World.cell?_alloc_mark zae za4 zao za8 zav zaw zax zay zaz za0 za1
theorem zf0{a b:Int}(h:0<b):(Rat.divInt a b).num=a/(Int.gcd a b:Int):=by
 rw[Rat.num_divInt,Int.gcd_comm b a,Int.sign_eq_one_of_pos h,Int.one_mul]
theorem zem{a b:Int}(h:0<b):((Rat.divInt a b).den:Int)=b/(Int.gcd a b:Int):=by
 rw[Rat.den_divInt,if_neg (by omega),Int.gcd_comm b a];obtain⟨n,rfl⟩:∃n:Nat,b=n:=⟨b.toNat,by omega⟩
 simp
theorem zen{a g:Int}(h:g∣a):a.tdiv g=a/g:=Int.tdiv_eq_ediv_of_dvd h
def zaA(n:Int)(num den:Int):Bool:=(decide (1<=den)&&decide (den<=n))&&(decide (0<=num)&&decide (num<=den))&&Int.gcd num den==1
theorem zbl{n num den:Int}(h:zaA n num den=true):(Rat.divInt num den).num=num/\((Rat.divInt num den).den:Int)=den/\0<=Rat.divInt num den/\Rat.divInt num den<=1:=by
 unfold zaA at h;simp only[Bool.and_eq_true,decide_eq_true_eq,beq_iff_eq]at h;obtain⟨⟨⟨h1,h2⟩,h3,h4⟩,h5⟩:=h;have hb:0<den:=by omega
 have e1:(Rat.divInt num den).num=num:=by rw[zf0 hb,h5];simp
 have e2:((Rat.divInt num den).den:Int)=den:=by rw[zem hb,h5];simp
 refine⟨e1,e2,?_,?_⟩
 ·rw[Rat.le_iff,e1];simp;omega
 ·rw[Rat.le_iff,e1,e2];simp;omega
theorem zjx(p q:Rat):p+q=Rat.divInt (p.num*q.den+q.num*p.den) (p.den*q.den):=by
 rw[Rat.add_def'];rfl
theorem zjy(p q:Rat):p-q=Rat.divInt (p.num*q.den-q.num*p.den) (p.den*q.den):=by
 rw[Rat.sub_def'];rfl
theorem zgX(p q:Rat):p*q=Rat.divInt (p.num*q.num) (p.den*q.den):=by
 rw[Rat.mul_def'];rfl
theorem zbS(p:Rat):(0:Int)<p.den:=by have:=p.den_pos;omega
theorem ratI{n:Int}(h:n≠0):(n:Rat)≠0:=fun e=>h (Rat.intCast_inj.1 (by simpa using e))
theorem zjz(p q:Rat)(h:0<q):p/q=Rat.divInt (p.num*q.den) (p.den*q.num):=by
 have hq:0<q.num:=by have:=(Rat.lt_iff 0 q).1 h;simpa using this
 rw[Rat.divInt_eq_div];have h1:p=p.num/(p.den:Int):=by rw[<-Rat.divInt_eq_div,Rat.num_divInt_den]
 have h2:q=q.num/(q.den:Int):=by rw[<-Rat.divInt_eq_div,Rat.num_divInt_den]
 have a1:((p.den:Int):Rat)≠0:=by have:=zbS p;exact ratI (by omega)
 have a2:((q.den:Int):Rat)≠0:=by have:=zbS q;exact ratI (by omega)
 have a3:(q.num:Rat)≠0:=ratI (by omega);conv=>lhs;rw[h1,h2]
 rw[Rat.intCast_mul,Rat.intCast_mul];generalize(p.num:Rat)=x at*;generalize((p.den:Int):Rat)=y at*;generalize(q.num:Rat)=z at*;generalize((q.den:Int):Rat)=t at*;clear h1 h2;grind
structure Rec where
 kind:Int
 name:ByteArray
 other:ByteArray
 place:ByteArray
 day:Int
 til:Int
 num:Int
 den:Int
def Rec.cells(r:Rec):List Value:=[.int .i64 r.kind,.string r.name,.string r.other,.string r.place,.int .i64 r.day,.int .i64 r.til,.int .i64 r.num,.int .i64 r.den]
def zbm(n:Int):Bool:=inR n 0 200000
def noB(s:ByteArray):Bool:=s.toList.isEmpty
def zcC(s:ByteArray):Bool:=noB s||zaE s
def zaf(a b:ByteArray):Bool:=a.toList==b.toList
abbrev Parts:=List (ByteArray×Rat)
structure Law where
 frm:Int
 stems:Bool
 num:Int
 den:Int
structure RPart where
 name:ByteArray
 num:Int
 den:Int
structure Deed where
 kind:Int
 day:Int
 place:ByteArray
 frm:ByteArray
 to:List RPart
 cls:Int
 years:Int
structure Grave where
 place:ByteArray
 cls:Int
 fin:Int
 holders:Parts
 died:List ByteArray
structure St where
 children:List (ByteArray×ByteArray)
 marriages:List (ByteArray×ByteArray)
 dead:List ByteArray
 wills:List (ByteArray×Parts)
 renounce:List (ByteArray×ByteArray)
 graves:List Grave
def Law.cells(x:Law):List Value:=[.int .i64 x.frm,.bool x.stems,.int .i64 x.num,.int .i64 x.den]
def RPart.cells(x:RPart):List Value:=[.string x.name,.int .i64 x.num,.int .i64 x.den]
def zaa(x:ByteArray×Rat):List Value:=[.string x.1,.int .i64 x.2.num,.int .i64 x.2.den]
def zbr(a b:ByteArray):Bool:=Op.bytesLess a.toList b.toList
def zhx(before:Option Int)(x:Law):Int:=
 if !zbm x.frm then 2 else if !zaA 16 x.num x.den then 3 else match before with
  |none=>0
  |some b=>if decide (x.frm<=b)then 9 else 0
def zeX:List Law->Option Int->Int
 | [],_=>0
 |x::l,b=>if zhx b x != 0 then zhx b x else zeX l (some x.frm)
def za9(l:List Law):Int:=if decide (10<l.length)then 8 else zeX l none
def zms:Law:=⟨0,false,0,1⟩
def zbc(l:List Law)(day:Int):Law:=(l.filter fun x=>decide (x.frm<=day)).getLast?.getD zms
def RPart.rat(p:RPart):Rat:=Rat.divInt p.num p.den
def zan(l:List RPart):Parts:=l.map fun p=>(p.name,p.rat)
def sumQ:Parts->Rat
 | []=>0
 |p::l=>p.2+sumQ l
def zda:List RPart->List ByteArray->Bool
 | [],_=>true
 |p::l,seen=>!seen.any (zaf p.name)&&zda l (p.name::seen)
def zcA(shares all:Bool)(frm:ByteArray)(l:List RPart):Bool:=
 zda l []&&l.all (fun p=>!zaf p.name frm)&&
 (if shares then l.all (fun p=>zaA 16 p.num p.den&&p.num != 0)&&decide (sumQ (zan l)<=1)&&(!all||sumQ (zan l)==1)else l.all fun p=>p.num==0&&p.den==0)
def zfW(d:Deed):Bool:=
 (noB d.place != (d.kind==0||d.kind==1||d.kind==2||d.kind==3))&&(noB d.frm==(d.kind==0||d.kind==3))&&
 (d.kind==0||d.cls==0)&&(d.kind==0||d.kind==3||d.years==0)&&!(d.years==0&&(d.kind==3||(d.kind==0&&d.cls==2)))&&
 (if d.kind==0||d.kind==1||d.kind==4 then !d.to.isEmpty&&zcA true (d.kind==0) d.frm d.to else
  if d.kind==5||d.kind==6||d.kind==7 then d.to.length==1&&zcA false false d.frm d.to else d.to.isEmpty)
def zaC(d:Deed):Int:=
 if !inR d.kind 0 8 then 15 else
 if !zbm d.day||!inR d.cls 0 4||!inR d.years 0 99 then 2 else
 if decide (8<d.to.length)then 8 else
 if !zcC d.place||!zcC d.frm||!d.to.all (fun p=>zaE p.name)then 4 else
 if !zfW d then 3 else 0
def za5:Parts->ByteArray->Rat->Parts
 | [],n,q=>if q==0 then[]else[(n,q)]
 |p::r,n,q=>if q==0 then p::r else if zbr p.1 n then p::za5 r n q else if zaf p.1 n then(n,p.2+q)::r else(n,q)::p::r
def zag(l:Parts)(n:ByteArray):Rat:=((l.find? fun p=>zaf p.1 n).map (·.2)).getD 0
def zar(l:Parts)(n:ByteArray):Parts:=l.filter fun p=>!zaf p.1 n
def bigQ(q:Rat):Bool:=decide (1000000000<(q.den:Int))
def zaG(l:Parts):Bool:=l.any fun p=>bigQ p.2
def zaP(s:St)(n:ByteArray):Bool:=s.dead.any (zaf n)
def zaj(s:St)(n:ByteArray):List ByteArray:=(s.children.filter fun c=>zaf c.1 n).map (·.2)
def zbM(s:St)(n:ByteArray):List ByteArray:=(s.children.filter fun c=>zaf c.2 n).map (·.1)
def zaO(g:Grave)(day:Int):Bool:=!g.holders.isEmpty&&(decide (g.fin<0)||decide (day<g.fin))
def zaS(s:St)(place:ByteArray)(day:Int):Option Nat:=s.graves.findIdx? fun g=>zaf g.place place&&zaO g day
def zds(n:ByteArray):List (ByteArray×ByteArray)->ByteArray
 | []=>⟨#[]⟩
 |m::l=>if zaf m.1 n then m.2 else if zaf m.2 n then m.1 else zds n l
def zaM(s:St)(n:ByteArray):ByteArray:=if zaP s (zds n s.marriages.reverse)then⟨#[]⟩else zds n s.marriages.reverse
def zeb(s:St)(n frm:ByteArray):Bool:=!noB n&&!zaf n frm&&!zaP s n&&!s.renounce.any (fun r=>zaf r.1 n&&zaf r.2 frm)
def Desc(s:St)(a b:ByteArray):Prop:=Relation.TransGen (fun x y=>y∈zaj s x) a b
inductive Tree where
 |leaf (n:ByteArray)
 |node (l:List Tree)
def zb4(s:St)(stems:Bool)(frm:ByteArray):Nat->ByteArray->List Tree
 |0,_=>[]
 |f+1,n=>(zaj s n).filterMap fun c=>if zeb s c frm then some (.leaf c)else if stems&&!(zb4 s stems frm f c).isEmpty then some (.node (zb4 s stems frm f c))else none
mutual
def zbB(each:Rat):List Tree->Parts->Option Parts
 | [],out=>some out
 |x::l,out=>(zeo each x out).bind fun o=>zbB each l o
def zeo(each:Rat):Tree->Parts->Option Parts
 | .leaf n,out=>if zaG (za5 out n each)then none else some (za5 out n each)
 | .node l,out=>if bigQ (each/(l.length:Rat))then none else zbB (each/(l.length:Rat)) l out
end
def zcu(s:St)(frm:ByteArray):Parts->Parts->Rat->Parts×Rat
 | [],out,rest=>(out,rest)
 |p::l,out,rest=>if zeb s p.1 frm then zcu s frm l (za5 out p.1 p.2) (rest-p.2)else zcu s frm l out rest
def zbx(s:St)(n:ByteArray):Parts:=((s.wills.reverse.find? fun w=>zaf w.1 n).map (·.2)).getD []
def zaW(s:St):Nat:=s.children.length+1
def zcO(s:St)(law:Law)(n:ByteArray):Option Parts:=
 let(out,rest):=zcu s n (zbx s n) [] 1
 if rest==0 then some out else
 let sp:=if zeb s (zaM s n) n then zaM s n else⟨#[]⟩
 let lines:=zb4 s law.stems n (zaW s) n
 if lines.isEmpty then some (za5 out sp rest)else
 let own:=if noB sp then 0 else rest*Rat.divInt law.num law.den
 let out2:=if noB sp then out else za5 out sp own
 if rest-own==0 then some out2 else
 if bigQ ((rest-own)/(lines.length:Rat))then none else zbB ((rest-own)/(lines.length:Rat)) lines out2
def zb5(own:Rat):Parts->Parts->Option Parts
 | [],out=>some out
 |p::l,out=>if bigQ (own*p.2)then none else if zaG (za5 out p.1 (own*p.2))then none else zb5 own l (za5 out p.1 (own*p.2))
def zgY(y:Int):Bool:=(y.tmod 4==0&&y.tmod 100 != 0)||y.tmod 400==0
def lensP:List Int:=[0,31,28,31,30,31,30,31,31,30,31,30,31]
def za7(y m:Int):Int:=if m==2&&zgY y then 29 else lensP.getD m.toNat 0
def zeY(y:Int):Int:=y.tdiv 4-y.tdiv 100+y.tdiv 400
def ze0(y:Int):Nat->Int
 |0=>0
 |k+1=>ze0 y k+za7 y (k+1)
def zaI(y:Int)(m:Nat):Int:=365*(y-1800)+zeY (y-1)-436+ze0 y (m-1)
def zep(day:Int):Nat->Int->Int
 |0,y=>y
 |f+1,y=>if decide (zaI (y+1) 1<=day)then zep day f (y+1)else y
def zdk(day y:Int):Nat->Nat->Nat
 |0,m=>m
 |f+1,m=>if decide (m<12)&&decide (zaI y (m+1)<=day)then zdk day y f (m+1)else m
def zbN(day:Int):Int:=zep day 10 (1800+day.tdiv 366)
def zbg(day:Int):Nat:=zdk day (zbN day) 12 1
def zbF(day months:Int):Int:=
 let y:=zbN day
 let m:=zbg day
 let d:=day-zaI y m+1
 let n:=y*12+m-1+months
 let y2:=n/12
 let m2:=n%12+1
 if !inR y2 1800 2347 then-1 else
 let out:=zaI y2 m2.toNat+min d (za7 y2 m2)-1
 if zbm out then out else-1
def zcg(day years:Int):Int:=zbF day (12*years)
def ze1(s:St)(l:List RPart):Bool:=l.any fun p=>zaP s p.name
def St.withGrave(s:St)(i:Nat)(g:Grave):St:= {s with graves:=s.graves.set i g}
def zbe(l:List RPart)(out:Parts):Parts:=l.foldl (fun o p=>za5 o p.name p.rat) out
def zcT(s:St)(d:Deed):St×Int:=
 if(zaS s d.place d.day).isSome then(s,13)else
 if ze1 s d.to then(s,28)else
 if decide (0<d.years)&&decide (zcg d.day d.years<0)then(s,2)else
 ({s with graves:=s.graves++[⟨d.place,d.cls,if decide (0<d.years)then zcg d.day d.years else-1,zbe d.to [],[]⟩]},0)
def zjj:Grave:=⟨⟨#[]⟩,0,0,[],[]⟩
def zbs(s:St)(d:Deed):St×Int:=match zaS s d.place d.day with
 |none=>(s,6)
 |some i=>
  let g:=s.graves.getD i zjj
  let share:=zag g.holders d.frm
  let keeps:=share*(1-sumQ (zan d.to))
  if g.cls==4 then(s,15)else
  if share==0 then(s,19)else
  if ze1 s d.to then(s,28)else
  if bigQ keeps then(s,8)else match zb5 share (zan d.to) (za5 (zar g.holders d.frm) d.frm keeps)with
   |none=>(s,8)
   |some out=>(s.withGrave i {g with holders:=out},0)
def zba(s:St)(d:Deed):St×Int:=match zaS s d.place d.day with
 |none=>(s,6)
 |some i=>
  let g:=s.graves.getD i zjj
  let share:=zag g.holders d.frm
  if share==0 then(s,19)else
  let out:=(zar g.holders d.frm).map fun p=>(p.1,p.2/(1-share))
  if zaG out then(s,8)else(s.withGrave i {g with holders:=out},0)
def zdb(s:St)(d:Deed):St×Int:=match zaS s d.place d.day with
 |none=>(s,6)
 |some i=>
  let g:=s.graves.getD i zjj
  if decide (g.fin<0)then(s,15)else
  if decide (zcg g.fin d.years<0)then(s,2)else(s.withGrave i {g with fin:=zcg g.fin d.years},0)
def zbh(d:Deed):ByteArray:=(d.to.map (·.name)).getD 0 ⟨#[]⟩
open Classical in
noncomputable def zcD (s:St) (d:Deed):St×Int:=
 if(zaj s d.frm).any (zaf (zbh d))then(s,5)else
 if decide (2<=(zbM s (zbh d)).length)then(s,16)else
 if decide (Desc s (zbh d) d.frm)then(s,25)else({s with children:=s.children++[(d.frm,zbh d)]},0)
def zb6(s:St)(d:Deed):St×Int:=
 if zaP s d.frm||zaP s (zbh d)then(s,28)else
 if s.renounce.any (fun r=>zaf r.1 d.frm&&zaf r.2 (zbh d))then(s,5)else({s with renounce:=s.renounce++[(d.frm,zbh d)]},0)
def zdu(s:St)(d:Deed):St×Int:=
 if zaP s d.frm||zaP s (zbh d)then(s,28)else
 if !noB (zaM s d.frm)||!noB (zaM s (zbh d))then(s,13)else({s with marriages:=s.marriages++[(d.frm,zbh d)]},0)
def zdv(s:St)(n:ByteArray)(day:Int)(i:Nat)(g:Grave):Bool:=zag g.holders n != 0&&zaS s g.place day==some i
def zb2(s:St)(n:ByteArray)(day:Int)(bz:Option Parts):Nat->List Grave->Option (List Grave)
 |_,[]=>some []
 |i,g::l=>
  if zdv s n day i g then(match bz with
   |none=>none
   |some h=>(zb5 (zag g.holders n) h (zar g.holders n)).bind fun out=>(zb2 s n day bz (i+1) l).map fun r=> {g with holders:=out,died:=g.died++[n]}::r)
  else(zb2 s n day bz (i+1) l).map fun r=>g::r
def zdP(laws:List Law)(s:St)(d:Deed):St×Int:=
 if zaP s d.frm then(s,28)else match zb2 s d.frm d.day (zcO s (zbc laws d.day) d.frm) 0 s.graves with
  |none=>(s,8)
  |some gs=>({s with graves:=gs,dead:=s.dead++[d.frm]},0)
def zgZ(s:St)(d:Deed):St×Int:=if zaP s d.frm then(s,28)else({s with wills:=s.wills++[(d.frm,zan d.to)]},0)
noncomputable def zbk (laws:List Law) (s:St) (d:Deed):St×Int:=
 if d.kind==0 then zcT s d else if d.kind==1 then zbs s d else if d.kind==2 then zba s d else if d.kind==3 then zdb s d else
 if d.kind==4 then zgZ s d else if d.kind==5 then zb6 s d else if d.kind==6 then zcD s d else if d.kind==7 then zdu s d else zdP laws s d
def zbb:St:=⟨[],[],[],[],[],[]⟩
noncomputable def zbt (laws:List Law) (s:St) (count:Nat) (last:Int) (d:Deed):St×Int:=
 if zaC d != 0 then(s,zaC d)else if decide (60<=count)then(s,8)else if decide (d.day<last)then(s,9)else zbk laws s d
noncomputable def zau (laws:List Law) (upto:Int):List Deed->St->St->Nat->Int->St×Nat×Int
 | [],_,told,k,_=>(told,k,0)
 |d::l,s,told,k,last=>
  if(zbt laws s k last d).2 != 0 then(told,k,(zbt laws s k last d).2)else
  zau laws upto l (zbt laws s k last d).1 (if decide (d.day<=upto)then(zbt laws s k last d).1 else told) (k+1) d.day
noncomputable def zaB (laws:List Law) (ds:List Deed) (upto:Int):St×Nat×Int:=
 if za9 laws != 0 then(zbb,0,za9 laws)else zau laws upto ds zbb zbb 0 0
section
open Go.ChangeMaps (setBlock)
theorem zj0:∀ {L:List MapEntry} {i:Nat} {e:MapEntry},L[i]?=some e->(L.map (·.born)).Nodup->L.filter (fun x=>!(x.born==e.born))=L.eraseIdx i
 | [],i,e,h,_=>by simp at h
 |x::L,0,e,h,hn=>by
  rw[List.map_cons,List.nodup_cons]at hn;simp only[List.getElem?_cons_zero,Option.some.injEq]at h;subst h;rw[List.filter_cons,if_neg (by simp),List.eraseIdx_cons_zero,List.filter_eq_self];intro y hy;have:y.born≠x.born:=fun e=>hn.1 (List.mem_map.2 ⟨y,hy,e⟩)
  simpa using this
 |x::L,i+1,e,h,hn=>by
  rw[List.map_cons,List.nodup_cons]at hn;simp only[List.getElem?_cons_succ]at h;have nZ:x.born≠e.born:=fun e'=>hn.1 (by rw[e'];exact List.mem_map.2 ⟨e,List.mem_of_getElem? h,rfl⟩)
  rw[List.filter_cons,if_pos (by simpa using nZ),List.eraseIdx_cons_succ,zj0 h hn.2]
theorem zhZ{α β:Type}(f:α->β):∀(l:List α) (i:Nat),(l.eraseIdx i).map f=(l.map f).eraseIdx i
 | [],_=>rfl
 |x::l,0=>rfl
 |x::l,i+1=>by
  rw[List.eraseIdx_cons_succ,List.map_cons,List.map_cons,List.eraseIdx_cons_succ,zhZ f l i]
def MapS(w:World)(b:Nat){K V:Type}(ek:K->Value)(ev:V->Value)(m:List (K×V)):Prop:=
 ∃(es:Array MapEntry) (clock:Nat),w.heap[b]?=some (.map es clock)/\es.toList.map (fun e=>(e.key,e.val))=m.map (fun p=>(ek p.1,ev p.2))/\(∀e∈es.toList,e.born<clock)/\(es.toList.map (·.born)).Nodup
section
variable {P:Program} {t kt et:TypeId} {K V:Type} {ek:K->Value} {ev:V->Value} {z:V} {eq:K->K->Bool} {w:World} {b:Nat} {m:List (K×V)}
theorem MapS.at(h:MapS w b ek ev m):MapAt w b ek ev m:=by
 obtain⟨es,c,h1,h2,_,_⟩:=h;exact⟨es,c,h1,h2⟩
theorem MapS.keep{w':World}(h:MapS w b ek ev m)(hk:w'.heap[b]?=w.heap[b]?):MapS w' b ek ev m:=by
 obtain⟨es,c,h1,h2⟩:=h;exact⟨es,c,hk.trans h1,h2⟩
theorem MapS.below{w':World}{n:Nat}(h:MapS w b ek ev m)(hB:Below n w w')(hn:w.heap.size<=n:=by first|exact Qc|omega):MapS w' b ek ev m:=h.keep (hB.block b (Nat.lt_of_lt_of_le h.at.lt hn))
theorem MapS.grown{w':World}{row:Option Nat}(h:MapS w b ek ev m)(hg:w.grownBy w' row)(ag:some b≠row):MapS w' b ek ev m:=h.keep (hg.block b h.at.lt ag)
theorem MapS.new(w:World):MapS (w.alloc (.map #[] 0)) w.heap.size ek ev ([]:List (K×V)):=⟨#[],0,heap_alloc_new w _,rfl,by simp,by simp⟩
theorem zdl(T:MapTy P t kt et ek ev z eq)(h:MapS w b ek ev m)(k:K)(v:V):
 ∃w',(Instr.mapUpdate t (.map (some b)) (ek k) (ev v)).run P w=.ok () w'/\MapS w' b ek ev (mput eq k v m)/\w.grownBy w' (some b)/\w'.heap.size=w.heap.size:=by
 obtain⟨es,c,hh,hm,hb,hn⟩:=h;have h1:=T.hfind k es.toList m hm w;have aa:=(Array.getElem?_eq_some_iff.1 hh).1;have bP:∀es' c',((setObj b (.map es' c')).run P w)=.ok () {w with heap:=w.heap.setIfInBounds b (.map es' c')}:=fun es' c'=>by
  simp[setObj,Sem.run,hh]
 have cL:∀es' c',w.grownBy {w with heap:=w.heap.setIfInBounds b (.map es' c')} (some b):=fun es' c'=>
  ⟨rfl,rfl,rfl,by simp,fun i hi ag=>by
    have:b≠i:=fun e=>ag (by rw[e])
    simp[Array.getElem?_setIfInBounds,this]⟩
 cases hl:locate eq k m 0 with
 |none=>
  refine⟨_,?_,?_,cL (es.push {key:=ek k,val:=ev v,born:=c}) (c+1),by simp⟩
  ·simp[Instr.mapUpdate,run_underlying T.ht,zbX hh,T.hck,h1,hl,bP]
  ·refine⟨es.push {key:=ek k,val:=ev v,born:=c},c+1,by simp[Array.getElem?_setIfInBounds,aa],?_,?_,?_⟩
   ·rw[zfV hl];simp[hm]
   ·intro e he;rw[Array.toList_push]at he;rcases List.mem_append.1 he with he|he
    ·have:=hb e he;omega
    ·rw[List.mem_singleton.1 he];exact Nat.lt_succ_self c
   ·rw[Array.toList_push,List.map_append,List.nodup_append];refine⟨hn,by simp,?_⟩;intro x hx y hy;obtain⟨e,he,rfl⟩:=List.mem_map.1 hx;simp only[List.map_cons,List.map_nil,List.mem_singleton]at hy;have:=hb e he;omega
 |some p=>
  obtain⟨j,u⟩:=p;obtain⟨_,q,hq,he,fO⟩:=zfU hl;simp only[Nat.sub_zero]at hq fO;have hj:j<m.length:=(List.getElem?_eq_some_iff.1 hq).1;have ae:es.toList.length=m.length:=by simpa using congrArg List.length hm
  have eI:j<es.size:=by
   have h0:es.size=m.length:=by simpa using ae
   omega
  have sZ:(es[j]).key=ek q.1:=by
   have:=congrArg (fun l=>l[j]?) hm;simp[List.getElem?_map,hq,eI]at this;exact this.1
  have eW:(es.modify j fun e=> {e with key:=ek k,val:=ev v}).toList.map (·.born)=es.toList.map (·.born):=by
   apply List.ext_getElem?;intro i;simp only[List.getElem?_map,Array.getElem?_toList,Array.getElem?_modify];by_cases eH:j=i
   ·subst eH;simp[eI,Array.getElem?_eq_getElem eI]
   ·simp[eH]
  refine⟨_,?_,?_,cL (es.modify j fun e=> {e with key:=ek k,val:=ev v}) c,by simp⟩
  ·simp[Instr.mapUpdate,run_underlying T.ht,zbX hh,T.hck,h1,hl,Instr.keyThatStays,Array.getElem?_eq_getElem eI,sZ,T.hsame _ _ he,bP]
  ·refine⟨es.modify j fun e=> {e with key:=ek k,val:=ev v},c,by simp[Array.getElem?_setIfInBounds,aa],?_,?_,by rw[eW];exact hn⟩
   ·rw[fO];apply List.ext_getElem?;intro i;have iC:=congrArg (fun l=>l[i]?) hm;simp only[List.getElem?_map,Array.getElem?_toList]at iC;simp only[List.getElem?_map,Array.getElem?_toList,Array.getElem?_modify,List.getElem?_set];by_cases eH:j=i
    ·subst eH;simp[eI,hj,Array.getElem?_eq_getElem eI]
    ·simp[eH,iC]
   ·intro e he;have h2:e.born∈(es.modify j fun e=> {e with key:=ek k,val:=ev v}).toList.map (·.born):=List.mem_map.2 ⟨e,he,rfl⟩;rw[eW]at h2;obtain⟨e',oX,mz⟩:=List.mem_map.1 h2;rw[<-mz];exact hb e' oX
def RangeAt(w:World)(b r:Nat){K V:Type}(ek:K->Value)(ev:V->Value)(m left:List (K×V)):Prop:=
 ∃(es:Array MapEntry) (clock since:Nat) (seen:Array Nat) (c0:Nat),w.heap[b]?=some (.map es clock)/\es.toList.map (fun e=>(e.key,e.val))=m.map (fun p=>(ek p.1,ev p.2))/\(∀e∈es.toList,e.born<since)/\(es.toList.map (·.born)).Nodup/\
  w.heap[r]?=some (.mapIter (some b) since seen c0)/\since<=c0/\since<=clock/\(leftOf es seen).toList.map (fun e=>(e.key,e.val))=left.map (fun p=>(ek p.1,ev p.2))
theorem RangeAt.mapS{r:Nat}{left:List (K×V)}(h:RangeAt w b r ek ev m left):MapS w b ek ev m:=by
 obtain⟨es,clock,since,seen,c0,h1,h2,h3,h4,_,_,h7,_⟩:=h;exact⟨es,clock,h1,h2,fun e he=>Nat.lt_of_lt_of_le (h3 e he) h7,h4⟩
theorem RangeAt.lt{r:Nat}{left:List (K×V)}(h:RangeAt w b r ek ev m left):r<w.heap.size/\b≠r:=by
 obtain⟨es,clock,since,seen,c0,h1,_,_,_,h5,_⟩:=h;refine⟨(Array.getElem?_eq_some_iff.1 h5).1,fun e=>?_⟩;rw[e,h5]at h1;cases h1
theorem RangeAt.grown{w':World}{row:Option Nat}{r:Nat}{left:List (K×V)}(h:RangeAt w b r ek ev m left)(hg:w.grownBy w' row)(hb:some b≠row)(hr:some r≠row):RangeAt w' b r ek ev m left:=by
 have h1:=h.mapS.at.lt;have h2:=h.lt.1;obtain⟨es,clock,since,seen,c0,k1,k2,k3,k4,k5,rest⟩:=h;exact⟨es,clock,since,seen,c0,(hg.block b h1 hb).trans k1,k2,k3,k4,(hg.block r h2 hr).trans k5,rest⟩
theorem RangeAt.below{w':World}{n r:Nat}{left:List (K×V)}(h:RangeAt w b r ek ev m left)(hB:Below n w w')(hn:w.heap.size<=n:=by first|exact Qc|omega):RangeAt w' b r ek ev m left:=by
 have h1:=h.mapS.at.lt;have h2:=h.lt.1;obtain⟨es,clock,since,seen,c0,k1,k2,k3,k4,k5,rest⟩:=h;exact⟨es,clock,since,seen,c0,(hB.block b (Nat.lt_of_lt_of_le h1 hn)).trans k1,k2,k3,k4,(hB.block r (Nat.lt_of_lt_of_le h2 hn)).trans k5,rest⟩
theorem zol(h:MapS w b ek ev m){e:TypeId}(ht:P.underlying t=some (.map kt e)):
 (Instr.range t (.map (some b))).run P w=.ok (.pointer (some ⟨w.heap.size,0,none⟩)) (w.alloc (.mapIter (some b) (h.choose_spec.choose) #[] (h.choose_spec.choose)))/\
   RangeAt (w.alloc (.mapIter (some b) (h.choose_spec.choose) #[] (h.choose_spec.choose))) b w.heap.size ek ev m m:=by
 have hs:=h.choose_spec.choose_spec;generalize h.choose_spec.choose=c at*;generalize h.choose=es at*;obtain⟨h1,h2,h3,h4⟩:=hs;refine⟨run_range_map w t kt e b es c ht h1,es,c,c,#[],c,(Below.heap_alloc w _ b (Array.getElem?_eq_some_iff.1 h1).1).trans h1,h2,h3,h4,heap_alloc_new w _,Qc,Qc,?_⟩;rw[<-h2];congr 1
 simp[leftOf]
theorem run_nextS{r:Nat}{left:List (K×V)}(h:RangeAt w b r ek ev m left)(ty:TypeId):
 (left=[]/\(Instr.next (.pointer (some ⟨r,0,none⟩)) false ty).run P w=.ok (.tuple #[.bool false]) w)\/
 ∃(i:Nat) (p:K×V) (w':World),left[i]?=some p/\(Instr.next (.pointer (some ⟨r,0,none⟩)) false ty).run P w=.ok (.tuple #[.bool true,ek p.1,ev p.2]) w'/\RangeAt w' b r ek ev m (left.eraseIdx i)/\w.grownBy w' (some r)/\w'.heap.size=w.heap.size/\
  (Instr.entry (.pointer (some ⟨r,0,none⟩))).run P w'=.ok (.tuple #[ek p.1,ev p.2]) w':=by
 have mA:=h.lt.2;obtain⟨es,clock,since,seen,c0,k1,k2,k3,k4,k5,k6,k7,k8⟩:=h;rcases run_next_at (P:=P) w ty r b since c0 seen es clock k5 k1 k3 k6 with⟨h0,hrun⟩|⟨e,he,w1,kg,hrun⟩
 ·refine .inl ⟨?_,hrun⟩;have hl:(leftOf es seen).toList.length=left.length:=by simpa using congrArg List.length k8
  rw[Array.length_toList,h0]at hl;exact List.eq_nil_of_length_eq_zero hl.symm
 ·refine .inr ?_;obtain⟨i,hi,AG⟩:=List.mem_iff_getElem.1 he;have hl:(leftOf es seen).toList.length=left.length:=by simpa using congrArg List.length k8
  have fg:i<left.length:=by omega
  have pe:(e.key,e.val)=(ek (left[i]).1,ev (left[i]).2):=by
   have:=congrArg (fun l=>l[i]?) k8;simp only[List.getElem?_map,List.getElem?_eq_getElem hi,List.getElem?_eq_getElem fg,Option.map_some,Option.some.injEq,AG]at this;exact this
  simp only[Prod.mk.injEq]at pe;have eZ:e∈es.toList:=by
   unfold leftOf at he;simp at he⊢;exact he.1
  have aO:(setBlock w1 r (.mapIter (some b) since (seen.push e.born) clock)).heap[b]?=some (.map es clock):=by
   rcases kg with rfl|rfl<;>(simp only[setBlock];rw[Array.getElem?_setIfInBounds_ne (fun e=>mA e.symm)];exact k1)
  have Ew:=(Array.getElem?_eq_some_iff.1 k5).1;have fk:(setBlock w1 r (.mapIter (some b) since (seen.push e.born) clock)).heap[r]?=some (.mapIter (some b) since (seen.push e.born) clock):=by
   rcases kg with rfl|rfl<;>(simp only[setBlock];exact Array.getElem?_setIfInBounds_self_of_lt Ew)
  refine⟨i,left[i],_,List.getElem?_eq_getElem fg,by rw[<-pe.1,<-pe.2];exact hrun,⟨es,clock,since,seen.push e.born,clock,aO,k2,k3,k4,fk,k7,k7,?_⟩,?_,?_,?_⟩
  ·
   have hn:((leftOf es seen).toList.map (·.born)).Nodup:=by
    unfold leftOf;rw[Array.toList_filter];exact List.Nodup.sublist (List.Sublist.map _ List.filter_sublist) k4
   have e1:(leftOf es (seen.push e.born)).toList=(leftOf es seen).toList.eraseIdx i:=by
    have e2:(leftOf es (seen.push e.born)).toList=(leftOf es seen).toList.filter fun x=>!(x.born==e.born):=by
     unfold leftOf;rw[Array.toList_filter,Array.toList_filter,List.filter_filter];congr 1
     funext x
     rw[Bool.eq_iff_iff];simp[Array.contains_push,and_comm]
    rw[e2];exact zj0 (by rw[List.getElem?_eq_getElem hi,AG]) hn
   rw[e1,zhZ,k8,zhZ]
  ·rcases kg with rfl|rfl
   ·exact⟨rfl,rfl,rfl,by simp[setBlock],fun k hk ag=>by simp only[setBlock];rw[Array.getElem?_setIfInBounds_ne (fun e=>ag (by rw[e]))]⟩
   ·exact⟨rfl,rfl,rfl,by simp[setBlock],fun k hk ag=>by simp only[setBlock];rw[Array.getElem?_setIfInBounds_ne (fun e=>ag (by rw[e]))];rfl⟩
  ·rcases kg with rfl|rfl<;>simp[setBlock]
  ·rw[<-pe.1,<-pe.2];exact run_entry_at (P:=P) _ r b since seen es clock e fk aO eZ k4
end
end
theorem zbY(n lo hi:Int)(w:World):
 Calls Tryz.prog 33 #[.int .i64 n,.int .i64 lo,.int .i64 hi] w (Ret0 w (.bool (inR n lo hi))):=by
 go_enter Tryz.func33,Tryz.ntmps33
 go_wp2
 all_goals go_ret
 all_goals(refine⟨?_,rfl⟩;simp[inR, *])
 omega
theorem zj1(n:Int)(w:World):Calls Tryz.prog 25 #[.int .u8 n] w (Ret0 w (.bool (zcM n))):=by
 go_enter Tryz.func25,Tryz.ntmps25
 go_wp2
 all_goals go_ret
 all_goals refine⟨?_,rfl⟩
 all_goals refine zn1 ?_
 all_goals go_tidy
 all_goals simp[zcM]
 all_goals omega
theorem zkY(n:Int)(w:World):Calls Tryz.prog 26 #[.int .u8 n] w (Ret0 w (.bool (zkV n))):=by
 go_enter Tryz.func26,Tryz.ntmps26
 go_wp2
 all_goals go_ret
 all_goals refine⟨?_,rfl⟩
 all_goals refine zn1 ?_
 all_goals go_tidy
 all_goals simp[zkV]
 all_goals omega
theorem zn2:∀(l:List Int) (i:Nat),nmGo l (i+1)=zji l
 | [],_=>rfl
 |c::l,i=>by
  rw[nmGo,zji,zn2 l (i+1)];have h:(!(zcM c)&&(i+1==0||(c != 45&&(decide (c<48)||decide (57<c)))))=(!zcM c&&!zkV c&&c != 45):=by
   cases zcM c
   ·have h0:(i+1==0)=false:=by simp
    rw[h0];by_cases h1:c=45
    ·subst h1;rfl
    ·have h2:(c != 45)=true:=by simpa using h1
     rw[h2,zkV];by_cases h3:c<48
     ·have h4:¬48<=c:=by omega
      simp only[h3,h4,decide_true,decide_false,Bool.not_false,Bool.true_and,Bool.false_or,Bool.true_or,Bool.false_and]
     ·have h4:48<=c:=by omega
      by_cases h5:57<c
      ·have h6:¬c<=57:=by omega
       simp only[h3,h4,h5,h6,decide_true,decide_false,Bool.not_false,Bool.true_and,Bool.false_or,Bool.true_or,Bool.false_and,Bool.or_true]
      ·have h6:c<=57:=by omega
       simp only[h3,h4,h5,h6,decide_true,decide_false,Bool.not_false,Bool.true_and,Bool.false_or,Bool.true_or,Bool.false_and,Bool.or_true,Bool.or_false,Bool.not_true]
   ·rfl
  rw[h]
theorem zmt(s:ByteArray):s.toList.isEmpty=decide ((s.size:Int)<1):=by
 have e:s.toList.length=s.size:=by rw[ByteArray.toList_eq,Array.length_toList];rfl
 generalize s.size=n at*;cases hl:s.toList with
 |nil=>
  rw[hl]at e;subst e;rfl
 |cons a l=>
  rw[hl,List.length_cons]at e;have h:¬((n:Int)<1):=by omega
  rw[decide_eq_false h];rfl
theorem zcw(s:ByteArray):zaE s=zcN s:=by
 unfold zaE zcN;rw[zmt];have hl:=zfz s;cases hb:zcZ s with
 |nil=>
  rw[hb]at hl;have h0:(s.size:Int)<1:=by simp at hl;omega
  simp[h0]
 |cons c l=>
  rw[hb]at hl;have h0:¬(s.size:Int)<1:=by simp at hl;omega
  have h1:nmGo (c::l) 0=if !zcM c then false else zji l:=by rw[nmGo,zn2];simp
  rw[h1];simp only[h0,decide_false,Bool.not_false,Bool.true_and,Bool.false_or,List.getD_cons_zero,List.drop_succ_cons,List.drop_zero];cases zcM c<;>by_cases h2:(12:Int)<s.size<;>simp[h2]<;>omega
