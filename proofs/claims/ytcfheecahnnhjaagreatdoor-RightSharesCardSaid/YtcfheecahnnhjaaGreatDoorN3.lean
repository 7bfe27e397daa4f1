import Derived.Test.YtcfheecahnnhjaaGreatDoorS0
set_option linter.all false
set_option maxRecDepth 100000
set_option maxHeartbeats 4000000
namespace Go.Proofs.YtcfheecahnnhjaaGreatDoor
open Go.RowKit
theorem zfw{a b:Int}(h:0<b):(Rat.divInt a b).num=a/(Int.gcd a b:Int):=by
 rw[Rat.num_divInt,Int.gcd_comm b a,Int.sign_eq_one_of_pos h,Int.one_mul]
theorem zen{a b:Int}(h:0<b):((Rat.divInt a b).den:Int)=b/(Int.gcd a b:Int):=by
 rw[Rat.den_divInt,if_neg (by omega),Int.gcd_comm b a];obtain⟨n,rfl⟩:∃n:Nat,b=n:=⟨b.toNat,by omega⟩
 simp
theorem zeo{a g:Int}(h:g∣a):a.tdiv g=a/g:=Int.tdiv_eq_ediv_of_dvd h
def za8(n:Int)(num den:Int):Bool:=(decide (1<=den)&&decide (den<=n))&&(decide (0<=num)&&decide (num<=den))&&Int.gcd num den==1
theorem zbp{n num den:Int}(h:za8 n num den=true):(Rat.divInt num den).num=num/\((Rat.divInt num den).den:Int)=den/\0<=Rat.divInt num den/\Rat.divInt num den<=1:=by
 unfold za8 at h;simp only[Bool.and_eq_true,decide_eq_true_eq,beq_iff_eq]at h;obtain⟨⟨⟨h1,h2⟩,h3,h4⟩,h5⟩:=h;have hb:0<den:=by omega
 have e1:(Rat.divInt num den).num=num:=by rw[zfw hb,h5];simp
 have e2:((Rat.divInt num den).den:Int)=den:=by rw[zen hb,h5];simp
 refine⟨e1,e2,?_,?_⟩
 ·rw[Rat.le_iff,e1];simp;omega
 ·rw[Rat.le_iff,e1,e2];simp;omega
theorem zj2(p q:Rat):p+q=Rat.divInt (p.num*q.den+q.num*p.den) (p.den*q.den):=by
 rw[Rat.add_def'];rfl
theorem zj3(p q:Rat):p-q=Rat.divInt (p.num*q.den-q.num*p.den) (p.den*q.den):=by
 rw[Rat.sub_def'];rfl
theorem zgN(p q:Rat):p*q=Rat.divInt (p.num*q.num) (p.den*q.den):=by
 rw[Rat.mul_def'];rfl
theorem zbX(p:Rat):(0:Int)<p.den:=by have:=p.den_pos;omega
theorem ratI{n:Int}(h:n≠0):(n:Rat)≠0:=fun e=>h (Rat.intCast_inj.1 (by simpa using e))
theorem zj4(p q:Rat)(h:0<q):p/q=Rat.divInt (p.num*q.den) (p.den*q.num):=by
 have hq:0<q.num:=by have:=(Rat.lt_iff 0 q).1 h;simpa using this
 rw[Rat.divInt_eq_div];have h1:p=p.num/(p.den:Int):=by rw[<-Rat.divInt_eq_div,Rat.num_divInt_den]
 have h2:q=q.num/(q.den:Int):=by rw[<-Rat.divInt_eq_div,Rat.num_divInt_den]
 have a1:((p.den:Int):Rat)≠0:=by have:=zbX p;exact ratI (by omega)
 have a2:((q.den:Int):Rat)≠0:=by have:=zbX q;exact ratI (by omega)
 have a3:(q.num:Rat)≠0:=ratI (by omega);conv=>lhs;rw[h1,h2]
 rw[Rat.intCast_mul,Rat.intCast_mul];generalize(p.num:Rat)=x at*;generalize((p.den:Int):Rat)=y at*;generalize(q.num:Rat)=z at*;generalize((q.den:Int):Rat)=t at*;clear h1 h2;grind
structure Rec where
 kind:Int
 name:ByteArray
 other:ByteArray
 place:ByteArray
 day:Int
 til:Int
 num:Int
 den:Int
def Rec.cells(r:Rec):List Value:=[.int .i64 r.kind,.string r.name,.string r.other,.string r.place,.int .i64 r.day,.int .i64 r.til,.int .i64 r.num,.int .i64 r.den]
def zbl(n:Int):Bool:=inR n 0 200000
def noB(s:ByteArray):Bool:=s.toList.isEmpty
def zb1(s:ByteArray):Bool:=noB s||zaT s
def zcx(x:Rec):Int:=
 if !inR x.kind 0 4 then 15 else
 if !zbl x.day||!zbl x.til then 2 else
 if !zb1 x.name||!zb1 x.other||!zb1 x.place then 4 else
 if noB x.name||(!noB x.other) != (x.kind==2)||(!noB x.place) != (x.kind==3||x.kind==4)then 3 else
 if(x.kind==2&&x.day != 0)||(x.kind != 4&&x.til != 0)||(x.kind != 3&&(x.num != 0||x.den != 0))then 3 else
 if x.kind==3&&(!inR x.den 1 12||!inR x.num 1 x.den||Int.gcd x.num x.den != 1)then 3 else
 if x.kind==4&&decide (x.til<=x.day)then 9 else 0
def zge{α:Type}(f:α->Int):List α->Int
 | []=>0
 |x::l=>if f x != 0 then f x else zge f l
def zfx(l:List Rec):Int:=if decide (40<l.length)then 8 else zge zcx l
def zae(a b:ByteArray):Bool:=a.toList==b.toList
def zgf(a b:Rec):Bool:=
 if a.kind==1&&b.kind==1 then zae a.name b.name&&a.day != b.day else
 if a.kind==0&&b.kind==1 then zae a.name b.name&&decide (b.day<a.day)else
 if a.kind==1&&(b.kind==3||b.kind==4)then zae a.name b.name&&decide (a.day<b.day)else
 if a.kind==3&&b.kind==3 then zae a.name b.name&&zae a.place b.place&&a.day==b.day&&(a.num != b.num||a.den != b.den)else
 if a.kind==4&&b.kind==4 then !zae a.name b.name&&zae a.place b.place&&decide (max a.day b.day<min a.til b.til)else false
def zbI(a b:Rec):Bool:=if decide (b.kind<a.kind)then zgf b a else zgf a b
def zkj:List Rec->Bool
 | []=>false
 |x::l=>l.any (fun y=>zbI y x)||zkj l
def Edge(l:List Rec)(a b:ByteArray):Prop:= ∃x∈l,x.kind=2/\x.name=a/\x.other=b
def Circle(l:List Rec):Prop:= ∃a,Relation.TransGen (Edge l) a a
abbrev Parts:=List (ByteArray×Rat)
structure Law where
 frm:Int
 stems:Bool
 num:Int
 den:Int
structure RPart where
 name:ByteArray
 num:Int
 den:Int
structure Deed where
 kind:Int
 day:Int
 place:ByteArray
 frm:ByteArray
 to:List RPart
 cls:Int
 years:Int
structure Grave where
 place:ByteArray
 cls:Int
 fin:Int
 holders:Parts
 died:List ByteArray
structure St where
 children:List (ByteArray×ByteArray)
 marriages:List (ByteArray×ByteArray)
 dead:List ByteArray
 wills:List (ByteArray×Parts)
 renounce:List (ByteArray×ByteArray)
 graves:List Grave
def Law.cells(x:Law):List Value:=[.int .i64 x.frm,.bool x.stems,.int .i64 x.num,.int .i64 x.den]
def RPart.cells(x:RPart):List Value:=[.string x.name,.int .i64 x.num,.int .i64 x.den]
def zaa(x:ByteArray×Rat):List Value:=[.string x.1,.int .i64 x.2.num,.int .i64 x.2.den]
def zbb(a b:ByteArray):Bool:=Op.bytesLess a.toList b.toList
def zhp(before:Option Int)(x:Law):Int:=
 if !zbl x.frm then 2 else if !za8 16 x.num x.den then 3 else match before with
  |none=>0
  |some b=>if decide (x.frm<=b)then 9 else 0
def zeY:List Law->Option Int->Int
 | [],_=>0
 |x::l,b=>if zhp b x != 0 then zhp b x else zeY l (some x.frm)
def zaC(l:List Law):Int:=if decide (10<l.length)then 8 else zeY l none
def zmx:Law:=⟨0,false,0,1⟩
def zbc(l:List Law)(day:Int):Law:=(l.filter fun x=>decide (x.frm<=day)).getLast?.getD zmx
def RPart.rat(p:RPart):Rat:=Rat.divInt p.num p.den
def zan(l:List RPart):Parts:=l.map fun p=>(p.name,p.rat)
def sumQ:Parts->Rat
 | []=>0
 |p::l=>p.2+sumQ l
def zde:List RPart->List ByteArray->Bool
 | [],_=>true
 |p::l,seen=>!seen.any (zae p.name)&&zde l (p.name::seen)
def zcF(shares all:Bool)(frm:ByteArray)(l:List RPart):Bool:=
 zde l []&&l.all (fun p=>!zae p.name frm)&&
 (if shares then l.all (fun p=>za8 16 p.num p.den&&p.num != 0)&&decide (sumQ (zan l)<=1)&&(!all||sumQ (zan l)==1)else l.all fun p=>p.num==0&&p.den==0)
def zfK(d:Deed):Bool:=
 (noB d.place != (d.kind==0||d.kind==1||d.kind==2||d.kind==3))&&(noB d.frm==(d.kind==0||d.kind==3))&&
 (d.kind==0||d.cls==0)&&(d.kind==0||d.kind==3||d.years==0)&&!(d.years==0&&(d.kind==3||(d.kind==0&&d.cls==2)))&&
 (if d.kind==0||d.kind==1||d.kind==4 then !d.to.isEmpty&&zcF true (d.kind==0) d.frm d.to else
  if d.kind==5||d.kind==6||d.kind==7 then d.to.length==1&&zcF false false d.frm d.to else d.to.isEmpty)
def zaI(d:Deed):Int:=
 if !inR d.kind 0 8 then 15 else
 if !zbl d.day||!inR d.cls 0 4||!inR d.years 0 99 then 2 else
 if decide (8<d.to.length)then 8 else
 if !zb1 d.place||!zb1 d.frm||!d.to.all (fun p=>zaT p.name)then 4 else
 if !zfK d then 3 else 0
def za3:Parts->ByteArray->Rat->Parts
 | [],n,q=>if q==0 then[]else[(n,q)]
 |p::r,n,q=>if q==0 then p::r else if zbb p.1 n then p::za3 r n q else if zae p.1 n then(n,p.2+q)::r else(n,q)::p::r
def zaf(l:Parts)(n:ByteArray):Rat:=((l.find? fun p=>zae p.1 n).map (·.2)).getD 0
def zau(l:Parts)(n:ByteArray):Parts:=l.filter fun p=>!zae p.1 n
def bigQ(q:Rat):Bool:=decide (1000000000<(q.den:Int))
def zaF(l:Parts):Bool:=l.any fun p=>bigQ p.2
def zaN(s:St)(n:ByteArray):Bool:=s.dead.any (zae n)
def zai(s:St)(n:ByteArray):List ByteArray:=(s.children.filter fun c=>zae c.1 n).map (·.2)
def zbT(s:St)(n:ByteArray):List ByteArray:=(s.children.filter fun c=>zae c.2 n).map (·.1)
def zaR(g:Grave)(day:Int):Bool:=!g.holders.isEmpty&&(decide (g.fin<0)||decide (day<g.fin))
def zaL(s:St)(place:ByteArray)(day:Int):Option Nat:=s.graves.findIdx? fun g=>zae g.place place&&zaR g day
def zdt(n:ByteArray):List (ByteArray×ByteArray)->ByteArray
 | []=>⟨#[]⟩
 |m::l=>if zae m.1 n then m.2 else if zae m.2 n then m.1 else zdt n l
def zaK(s:St)(n:ByteArray):ByteArray:=if zaN s (zdt n s.marriages.reverse)then⟨#[]⟩else zdt n s.marriages.reverse
def zed(s:St)(n frm:ByteArray):Bool:=!noB n&&!zae n frm&&!zaN s n&&!s.renounce.any (fun r=>zae r.1 n&&zae r.2 frm)
def Desc(s:St)(a b:ByteArray):Prop:=Relation.TransGen (fun x y=>y∈zai s x) a b
inductive Tree where
 |leaf (n:ByteArray)
 |node (l:List Tree)
def zb7(s:St)(stems:Bool)(frm:ByteArray):Nat->ByteArray->List Tree
 |0,_=>[]
 |f+1,n=>(zai s n).filterMap fun c=>if zed s c frm then some (.leaf c)else if stems&&!(zb7 s stems frm f c).isEmpty then some (.node (zb7 s stems frm f c))else none
mutual
def zbJ(each:Rat):List Tree->Parts->Option Parts
 | [],out=>some out
 |x::l,out=>(zep each x out).bind fun o=>zbJ each l o
def zep(each:Rat):Tree->Parts->Option Parts
 | .leaf n,out=>if zaF (za3 out n each)then none else some (za3 out n each)
 | .node l,out=>if bigQ (each/(l.length:Rat))then none else zbJ (each/(l.length:Rat)) l out
end
def zcu(s:St)(frm:ByteArray):Parts->Parts->Rat->Parts×Rat
 | [],out,rest=>(out,rest)
 |p::l,out,rest=>if zed s p.1 frm then zcu s frm l (za3 out p.1 p.2) (rest-p.2)else zcu s frm l out rest
def zbx(s:St)(n:ByteArray):Parts:=((s.wills.reverse.find? fun w=>zae w.1 n).map (·.2)).getD []
def zaX(s:St):Nat:=s.children.length+1
def zcP(s:St)(law:Law)(n:ByteArray):Option Parts:=
 let(out,rest):=zcu s n (zbx s n) [] 1
 if rest==0 then some out else
 let sp:=if zed s (zaK s n) n then zaK s n else⟨#[]⟩
 let lines:=zb7 s law.stems n (zaX s) n
 if lines.isEmpty then some (za3 out sp rest)else
 let own:=if noB sp then 0 else rest*Rat.divInt law.num law.den
 let out2:=if noB sp then out else za3 out sp own
 if rest-own==0 then some out2 else
 if bigQ ((rest-own)/(lines.length:Rat))then none else zbJ ((rest-own)/(lines.length:Rat)) lines out2
def zbC(own:Rat):Parts->Parts->Option Parts
 | [],out=>some out
 |p::l,out=>if bigQ (own*p.2)then none else if zaF (za3 out p.1 (own*p.2))then none else zbC own l (za3 out p.1 (own*p.2))
def zgO(y:Int):Bool:=(y.tmod 4==0&&y.tmod 100 != 0)||y.tmod 400==0
def lensP:List Int:=[0,31,28,31,30,31,30,31,31,30,31,30,31]
def za6(y m:Int):Int:=if m==2&&zgO y then 29 else lensP.getD m.toNat 0
def zeZ(y:Int):Int:=y.tdiv 4-y.tdiv 100+y.tdiv 400
def ze4(y:Int):Nat->Int
 |0=>0
 |k+1=>ze4 y k+za6 y (k+1)
def zaD(y:Int)(m:Nat):Int:=365*(y-1800)+zeZ (y-1)-436+ze4 y (m-1)
def zeq(day:Int):Nat->Int->Int
 |0,y=>y
 |f+1,y=>if decide (zaD (y+1) 1<=day)then zeq day f (y+1)else y
def zdo(day y:Int):Nat->Nat->Nat
 |0,m=>m
 |f+1,m=>if decide (m<12)&&decide (zaD y (m+1)<=day)then zdo day y f (m+1)else m
def zbU(day:Int):Int:=zeq day 10 (1800+day.tdiv 366)
def zbh(day:Int):Nat:=zdo day (zbU day) 12 1
def zbV(day months:Int):Int:=
 let y:=zbU day
 let m:=zbh day
 let d:=day-zaD y m+1
 let n:=y*12+m-1+months
 let y2:=n/12
 let m2:=n%12+1
 if !inR y2 1800 2347 then-1 else
 let out:=zaD y2 m2.toNat+min d (za6 y2 m2)-1
 if zbl out then out else-1
def zcj(day years:Int):Int:=zbV day (12*years)
def ze5(s:St)(l:List RPart):Bool:=l.any fun p=>zaN s p.name
def St.withGrave(s:St)(i:Nat)(g:Grave):St:= {s with graves:=s.graves.set i g}
def zbe(l:List RPart)(out:Parts):Parts:=l.foldl (fun o p=>za3 o p.name p.rat) out
def zcT(s:St)(d:Deed):St×Int:=
 if(zaL s d.place d.day).isSome then(s,13)else
 if ze5 s d.to then(s,28)else
 if decide (0<d.years)&&decide (zcj d.day d.years<0)then(s,2)else
 ({s with graves:=s.graves++[⟨d.place,d.cls,if decide (0<d.years)then zcj d.day d.years else-1,zbe d.to [],[]⟩]},0)
def zfa:Grave:=⟨⟨#[]⟩,0,0,[],[]⟩
def zbs(s:St)(d:Deed):St×Int:=match zaL s d.place d.day with
 |none=>(s,6)
 |some i=>
  let g:=s.graves.getD i zfa
  let share:=zaf g.holders d.frm
  let keeps:=share*(1-sumQ (zan d.to))
  if g.cls==4 then(s,15)else
  if share==0 then(s,19)else
  if ze5 s d.to then(s,28)else
  if bigQ keeps then(s,8)else match zbC share (zan d.to) (za3 (zau g.holders d.frm) d.frm keeps)with
   |none=>(s,8)
   |some out=>(s.withGrave i {g with holders:=out},0)
def zba(s:St)(d:Deed):St×Int:=match zaL s d.place d.day with
 |none=>(s,6)
 |some i=>
  let g:=s.graves.getD i zfa
  let share:=zaf g.holders d.frm
  if share==0 then(s,19)else
  let out:=(zau g.holders d.frm).map fun p=>(p.1,p.2/(1-share))
  if zaF out then(s,8)else(s.withGrave i {g with holders:=out},0)
def zdf(s:St)(d:Deed):St×Int:=match zaL s d.place d.day with
 |none=>(s,6)
 |some i=>
  let g:=s.graves.getD i zfa
  if decide (g.fin<0)then(s,15)else
  if decide (zcj g.fin d.years<0)then(s,2)else(s.withGrave i {g with fin:=zcj g.fin d.years},0)
def zbi(d:Deed):ByteArray:=(d.to.map (·.name)).getD 0 ⟨#[]⟩
open Classical in
noncomputable def zcI (s:St) (d:Deed):St×Int:=
 if(zai s d.frm).any (zae (zbi d))then(s,5)else
 if decide (2<=(zbT s (zbi d)).length)then(s,16)else
 if decide (Desc s (zbi d) d.frm)then(s,25)else({s with children:=s.children++[(d.frm,zbi d)]},0)
def zbD(s:St)(d:Deed):St×Int:=
 if zaN s d.frm||zaN s (zbi d)then(s,28)else
 if s.renounce.any (fun r=>zae r.1 d.frm&&zae r.2 (zbi d))then(s,5)else({s with renounce:=s.renounce++[(d.frm,zbi d)]},0)
def zdv(s:St)(d:Deed):St×Int:=
 if zaN s d.frm||zaN s (zbi d)then(s,28)else
 if !noB (zaK s d.frm)||!noB (zaK s (zbi d))then(s,13)else({s with marriages:=s.marriages++[(d.frm,zbi d)]},0)
def zdw(s:St)(n:ByteArray)(day:Int)(i:Nat)(g:Grave):Bool:=zaf g.holders n != 0&&zaL s g.place day==some i
def zb2(s:St)(n:ByteArray)(day:Int)(bC:Option Parts):Nat->List Grave->Option (List Grave)
 |_,[]=>some []
 |i,g::l=>
  if zdw s n day i g then(match bC with
   |none=>none
   |some h=>(zbC (zaf g.holders n) h (zau g.holders n)).bind fun out=>(zb2 s n day bC (i+1) l).map fun r=> {g with holders:=out,died:=g.died++[n]}::r)
  else(zb2 s n day bC (i+1) l).map fun r=>g::r
def zdQ(laws:List Law)(s:St)(d:Deed):St×Int:=
 if zaN s d.frm then(s,28)else match zb2 s d.frm d.day (zcP s (zbc laws d.day) d.frm) 0 s.graves with
  |none=>(s,8)
  |some gs=>({s with graves:=gs,dead:=s.dead++[d.frm]},0)
def zgP(s:St)(d:Deed):St×Int:=if zaN s d.frm then(s,28)else({s with wills:=s.wills++[(d.frm,zan d.to)]},0)
noncomputable def zbr (laws:List Law) (s:St) (d:Deed):St×Int:=
 if d.kind==0 then zcT s d else if d.kind==1 then zbs s d else if d.kind==2 then zba s d else if d.kind==3 then zdf s d else
 if d.kind==4 then zgP s d else if d.kind==5 then zbD s d else if d.kind==6 then zcI s d else if d.kind==7 then zdv s d else zdQ laws s d
def zb4:St:=⟨[],[],[],[],[],[]⟩
noncomputable def zci (laws:List Law) (s:St) (count:Nat) (last:Int) (d:Deed):St×Int:=
 if zaI d != 0 then(s,zaI d)else if decide (60<=count)then(s,8)else if decide (d.day<last)then(s,9)else zbr laws s d
noncomputable def zaY (laws:List Law) (upto:Int):List Deed->St->St->Nat->Int->St×Nat×Int
 | [],_,told,k,_=>(told,k,0)
 |d::l,s,told,k,last=>
  if(zci laws s k last d).2 != 0 then(told,k,(zci laws s k last d).2)else
  zaY laws upto l (zci laws s k last d).1 (if decide (d.day<=upto)then(zci laws s k last d).1 else told) (k+1) d.day
noncomputable def zaQ (laws:List Law) (ds:List Deed) (upto:Int):St×Nat×Int:=
 if zaC laws != 0 then(zb4,0,zaC laws)else zaY laws upto ds zb4 zb4 0 0
