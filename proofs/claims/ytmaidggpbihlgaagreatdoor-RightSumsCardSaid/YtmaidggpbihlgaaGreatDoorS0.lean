/- Chapter 3 in plain words: what the functions of the program and of the reference compute, on plain data. -/
import Derived.RowKit3
set_option linter.unusedSimpArgs false
set_option linter.unusedVariables false
namespace Go.Proofs.YtmaidggpbihlgaaGreatDoor
open Go.RowKit
structure Site where
 name:ByteArray
 kind:Int
 soil:Int
 depth:Int
 step:Int
 room:Int
structure Rest where
 soil:Int
 container:Int
 days:Int
structure Event where
 day:Int
 kind:Int
 site:ByteArray
 level:Int
 remain:ByteArray
 container:Int
 order:Bool
structure Lot where
 remain:ByteArray
 state:Int
 site:ByteArray
 level:Int
 container:Int
 since:Int
structure Stay where
 lot:Lot
 till:Int
structure Berth where
 site:ByteArray
 level:Int
def Site.cells (s:Site):List Value:=[.string s.name, .int .i64 s.kind, .int .i64 s.soil, .int .i64 s.depth, .int .i64 s.step, .int .i64 s.room]
def Rest.cells (r:Rest):List Value:=[.int .i64 r.soil, .int .i64 r.container, .int .i64 r.days]
def Event.cells (e:Event):List Value:=[.int .i64 e.day, .int .i64 e.kind, .string e.site, .int .i64 e.level, .string e.remain, .int .i64 e.container, .bool e.order]
def Lot.cells (l:Lot):List Value:=[.string l.remain, .int .i64 l.state, .string l.site, .int .i64 l.level, .int .i64 l.container, .int .i64 l.since]
def Stay.cells (s:Stay):List Value:=s.lot.cells++[.int .i64 s.till]
def Berth.cells (b:Berth):List Value:=[.string b.site, .int .i64 b.level]
def inR (n lo hi:Int):Bool:=decide (lo<=n)&&decide (n<=hi)
def bytesI (s:ByteArray):List Int:=s.data.toList.map fun b=>(b.toNat:Int)
theorem bytesI_len (s:ByteArray):(bytesI s).length=s.size:=by simp[bytesI]
theorem bytesI_drop (s:ByteArray) (k:Nat) (h:k<s.data.size):(bytesI s).drop k=((s.data[k].toNat:Int))::(bytesI s).drop (k+1):=by
 rw[List.drop_eq_getElem_cons (by simpa[bytesI]using h)]
 simp[bytesI]
def digitI (c:Int):Bool:=decide (48<=c)&&decide (c<=57)
def letterI (c:Int):Bool:=(decide (97<=c)&&decide (c<=122))||(decide (65<=c)&&decide (c<=90))
/- the program -/
def nmGo:List Int->Nat->Bool
 | [],_=>true
 |c::l,i=>if !(letterI c)&&(i==0||(c != 45&&(decide (c<48)||decide (57<c))))then false else nmGo l (i+1)
def isNameP (s:ByteArray):Bool:=nmGo (bytesI s) 0&&(!s.toList.isEmpty&&decide ((s.size:Int)<=12))
def depthP (k d st l:Int):Int:=if k != 0 then 0 else wrap64 (d-wrap64 (st*l))
def checkSiteP (nm:ByteArray) (k so d st r:Int):Int:=
 if !isNameP nm then 4 else
 if !inR k 0 3 then 15 else
 if !inR so 0 9||!inR d 0 1000||!inR st 0 300||!inR r 1 12 then 2 else
 if k==0&&decide (depthP k d st (wrap64 (r-1))<0)then 3 else
 if k != 0&&(d != 0||st != 0)then 3 else
 if k==3&&r != 1 then 3 else 0
def findSite (nm:ByteArray):List Site->Option Site
 | []=>none
 |s::l=>if s.name.toList==nm.toList then some s else findSite nm l
def restP (so co:Int):List Rest->Int
 | []=>0
 |r::l=>if r.soil==so&&r.container==co then r.days else restP so co l
def coverOf (c0 c1 c2 c:Int):Int:=if c=0 then c0 else if c=1 then c1 else c2
def takesP (c0 c1 c2 k d st l c:Int):Bool:=
 if k==0 then c != 2&&decide (coverOf c0 c1 c2 c<=depthP k d st l)else
 if k==1 then c != 2 else if k==2 then c==1 else c==2
def checkEventP (e:Event):Int:=
 let put:=e.kind==0||e.kind==2
 let level:=put||e.kind==3
 if !inR e.day 0 200000 then 2 else
 if !inR e.kind 0 4 then 15 else
 if !isNameP e.remain||(put&&!isNameP e.site)then 4 else
 if(level&&!inR e.level 0 11)||(put&&!inR e.container 0 2)then 2 else
 if(!put&&(!e.site.toList.isEmpty||e.container != 0))||(!level&&e.level != 0)||(e.order&&e.kind != 1&&e.kind != 3)then 3 else 0
def siteIdx (nm:ByteArray):List Site->Nat->Option Nat
 | [],_=>none
 |s::l,k=>if s.name.toList==nm.toList then some k else siteIdx nm l (k+1)
def sitePtr (A:Option Addr) (nm:ByteArray) (ss:List Site):Option Addr:=(siteIdx nm ss 0).bind fun k=>A.map fun a=>⟨a.block,a.off+k*6,none⟩
theorem siteIdx_find (nm:ByteArray): ∀(l:List Site) (k:Nat),(match siteIdx nm l k with|none=>findSite nm l=none|some j=> ∃i s,j=k+i/\l[i]?=some s/\findSite nm l=some s)
 | [],k=>rfl
 |s::l,k=>by
  unfold siteIdx findSite
  split
  ·rename_i h
   split at h
   ·cases h
   ·rename_i hn
    have:=siteIdx_find nm l (k+1)
    rw[h]at this
    simp[hn,this]
  ·rename_i j h
   split at h
   ·rename_i hn
    simp only[Option.some.injEq]at h
    exact⟨0,s,by omega,rfl,by simp[hn]⟩
   ·rename_i hn
    have:=siteIdx_find nm l (k+1)
    rw[h]at this
    obtain⟨i,s',h1,h2,h3⟩:=this
    exact⟨i+1,s',by omega,by simpa using h2,by simp[hn,h3]⟩
theorem sitePtr_isSome (a:Addr) (nm:ByteArray) (l:List Site):(sitePtr (some a) nm l).isSome=(findSite nm l).isSome:=by
 have h:=siteIdx_find nm l 0
 unfold sitePtr
 cases hi:siteIdx nm l 0 with
 |none=>rw[hi]at h;rw[h];rfl
 |some j=>
  rw[hi]at h
  obtain⟨i,s,_,_,hf⟩:=h
  rw[hf];rfl
def SiteRes (w:World) (p:Option Addr):Option Site->Prop
 |none=>p=none
 |some s=> ∃b off,p=some ⟨b,off,none⟩/\b<w.heap.size/\ ∀j u,s.cells[j]?=some u->w.cell? ⟨b,off+j,none⟩=some u
def coversP (c0 c1 c2:Int):Int:=if !inR c0 0 1000 then 2 else if !inR c1 0 1000 then 2 else if !inR c2 0 1000 then 2 else 0
def covK (c0 c1 c2:Int) (k:Nat):Int:=if k=0 then coversP c0 c1 c2 else if k=1 then(if !inR c1 0 1000 then 2 else if !inR c2 0 1000 then 2 else 0)else if k=2 then(if !inR c2 0 1000 then 2 else 0)else 0
def sitesP (T:Int):List Site->List Site->Int
 |_,[]=>T
 |d,s::l=>
  if checkSiteP s.name s.kind s.soil s.depth s.step s.room != 0 then checkSiteP s.name s.kind s.soil s.depth s.step s.room else
  if(findSite s.name d).isSome then 5 else sitesP T (d++[s]) l
def eqK (a b:Int×Int):Bool:=a.1==b.1&&a.2==b.2
def mget {K V:Type} (eq:K->K->Bool) (k:K):List (K×V)->Option V
 | []=>none
 |p::l=>if eq k p.1 then some p.2 else mget eq k l
def mput {K V:Type} (eq:K->K->Bool) (k:K) (v:V):List (K×V)->List (K×V)
 | []=>[(k,v)]
 |p::l=>if eq k p.1 then(k,v)::l else p::mput eq k v l
def restsP (T:Int):List ((Int×Int)×Bool)->List Rest->Int
 |_,[]=>T
 |m,r::l=>
  if !inR r.soil 0 9||!inR r.container 0 2||!inR r.days 0 100000 then 2 else
  if(mget eqK (r.soil,r.container) m).getD false then 5 else restsP T (mput eqK (r.soil,r.container) true m) l
def checkYardP (ss:List Site) (rs:List Rest) (c0 c1 c2:Int):Int:=
 if decide (60<(ss.length:Int))then 8 else sitesP (if decide (40<(rs.length:Int))then 8 else restsP (coversP c0 c1 c2) [] rs) [] ss
/- the reference -/
def nmGoR:List Int->Bool
 | []=>true
 |c::l=>if !letterI c&&!digitI c&&c != 45 then false else nmGoR l
def isNameR (s:ByteArray):Bool:=
 if decide ((s.size:Int)<1)||decide (12<(s.size:Int))||!letterI ((bytesI s).getD 0 0)then false else nmGoR ((bytesI s).drop 1)
def checkSiteR (nm:ByteArray) (k so d st r:Int):Int:=
 if !isNameR nm then 4 else
 if !inR k 0 3 then 15 else
 if !inR so 0 9||!inR d 0 1000||!inR st 0 300||!inR r 1 12 then 2 else
 if(k==0&&decide (wrap64 (d-wrap64 (wrap64 (r-1)*st))<0))||(k != 0&&(d != 0||st != 0))||(k==3&&r != 1)then 3 else 0
def anySite (nm:ByteArray):List Site->Bool
 | []=>false
 |s::l=>if s.name.toList==nm.toList then true else anySite nm l
def sitesR (T:Int):List Site->List Site->Int
 |_,[]=>T
 |d,s::l=>
  if checkSiteR s.name s.kind s.soil s.depth s.step s.room != 0 then checkSiteR s.name s.kind s.soil s.depth s.step s.room else
  if anySite s.name d then 5 else sitesR T (d++[s]) l
def anyRest (so co:Int):List Rest->Bool
 | []=>false
 |r::l=>if r.soil==so&&r.container==co then true else anyRest so co l
def restsR (T:Int):List Rest->List Rest->Int
 |_,[]=>T
 |d,r::l=>
  if !inR r.soil 0 9||!inR r.container 0 2||!inR r.days 0 100000 then 2 else
  if anyRest r.soil r.container d then 5 else restsR T (d++[r]) l
def checkYardR (ss:List Site) (rs:List Rest) (c0 c1 c2:Int):Int:=
 if decide (60<(ss.length:Int))then 8 else sitesR (if decide (40<(rs.length:Int))then 8 else restsR (coversP c0 c1 c2) [] rs) [] ss
end Go.Proofs.YtmaidggpbihlgaaGreatDoor
