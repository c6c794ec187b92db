/-
  Shapes of values and states, what is taken out of a state by a shape and what is filled in; entries of functions; regions; code. Conditions: none; definitions.
-/
import Derived.Lib.Bytealg
import Derived.Test.YtneeginmfjageaaGreatCAbs36oxadca21
set_option linter.unusedSimpArgs false
set_option linter.unusedVariables false
namespace Go.Proofs.YtneeginmfjageaaGreat
namespace Abs
section
open Go
noncomputable section
mutual
def azA:Ty→Ty→Bool
 | .mk k s l,.mk k' s' l'=>decide (k=k')&&(s==s'&&adU l l')
def adU:List Ty→List Ty→Bool
 | [],[]=>true
 | x::xs,y::ys=>azA x y&&adU xs ys
 | _,_=>false
end
inductive CU where
 | n (k:IntKind) (x:Int) | b (x:Bool) | s (x:Str) | l (e:ET) | ly (x:List Ty)
def CU.t:CU→LT
 | .n k _=>.n k | .b _=>.b | .s _=>.s | .l e=>.l e | .ly _=>.l .ty
def CU.x:(c:CU)→c.t.D
 | .n _ x=>x | .b x=>x | .s x=>x | .l _=>[] | .ly x=>x
def CU.is:(c:CU)→c.t.D→Bool
 | .n _ x,y=>decide ((show Int from y)=x)
 | .b x,y=>x==show Bool from y
 | .s x,y=>(show Str from y)==x
 | .l e,y=>List.isEmpty (show List e.D from y)
 | .ly x,y=>adU x (show List Ty from y)
inductive Sk where
 | unk | nilp | nilF | nils
 | k (c:CU)
 | lf (t:LT)
 | ptr (l off:Nat)
 | eptr (cs:List Sk)
 | agg (cs:List Sk)
 | tup (cs:List Sk)
 | func (f:Nat) (cs:List Sk)
 | mapr (l:Nat)
 | own (l:Nat)
 | psl (l z:Nat)
inductive HO where
 | dead
 | box (cs:List Sk)
 | bx (l:List (Nat×Sk))
 | own (e:ET)
 | mp (e:ET)
 | arr (e:ET)
inductive Ed where
 | r (n:Nat) (s:Sk)
 | o (l:Nat) (h:HO)
 | w (h:HO)
mutual
def Sk.Mr:Sk→List LT
 | .lf t=>[t]
 | .eptr cs=>Sk.Rt cs
 | .agg cs=>Sk.Rt cs
 | .tup cs=>Sk.Rt cs
 | .func _ cs=>Sk.Rt cs
 | .unk=>[] | .nilp=>[] | .nilF=>[] | .nils=>[] | .k _=>[] | .ptr _ _=>[] | .mapr _=>[] | .own _=>[] | .psl _ _=>[]
def Sk.Rt:List Sk→List LT
 | []=>[]
 | s::ss=>s.Mr++Sk.Rt ss
end
def HO.Mr:HO→List LT
 | .dead=>[]
 | .box cs=>Sk.Rt cs
 | .bx l=>l.flatMap fun p=>p.2.Mr
 | .own e=>[.l e]
 | .mp e=>[.m e]
 | .arr e=>[.l e]
def bD:List Ed→List LT
 | []=>[]
 | .r _ s::es=>s.Mr++bD es
 | .o _ h::es=>h.Mr++bD es
 | .w h::es=>h.Mr++bD es
section
variable {β:Type}
def yT{α:Type}l:=
 List.rec (motive:=fun _=>Nat→α→(List α→β)→β) (fun _ _ K=>K []) (fun x xs ih n v K=>Nat.rec (motive:=fun _=>β) (K (v::xs)) (fun m _=>ih m v fun ys=>K (x::ys)) n) l
def aAr{α:Type}l:=
 List.rec (motive:=fun _=>α→(List α→β)→β) (fun v K=>K [v]) (fun x _ ih v K=>ih v fun ys=>K (x::ys)) l
mutual
def fill(g:Nat→Nat):Sk→List U→(TV→List U→β)→β
 | .unk,us,K=>K .unk us
 | .nilp,us,K=>K .nilp us
 | .nilF,us,K=>K .nilF us
 | .k c,us,K=>K (.lf c.t c.x) us
 | .nils,us,K=>K .nils us
 | .lf _,us,K=>match us with
  | u::us=>K (.lf u.t u.x) us
  | []=>K .unk []
 | .ptr l o,us,K=>K (.ptr (g l) o) us
 | .eptr cs,us,K=>fills g cs us fun vs us=>K (.eptr vs) us
 | .agg cs,us,K=>fills g cs us fun vs us=>K (.agg vs) us
 | .tup cs,us,K=>fills g cs us fun vs us=>K (.tup vs) us
 | .func f cs,us,K=>fills g cs us fun vs us=>K (.func f vs) us
 | .mapr l,us,K=>K (.mapr (g l)) us
 | .own l,us,K=>K (.own (g l)) us
 | .psl l z,us,K=>K (.psl (g l) z none) us
def fills(g:Nat→Nat):List Sk→List U→(List TV→List U→β)→β
 | [],us,K=>K [] us
 | s::ss,us,K=>fill g s us fun v us=>fills g ss us fun vs us=>K (v::vs) us
end
def VI(g:Nat→Nat):List (Nat×Sk)→Option (List TV)→List U→(Option (List TV)→List U→β)→β
 | [],c,us,K=>K c us
 | p::ps,c,us,K=>fill g p.2 us fun v us=>match c with
  | none=>VI g ps none us K
  | some cs=>match tX cs p.1 [v] some with
   | some cs=>VI g ps (some cs) us K
   | none=>VI g ps none us K
def Qc(g:Nat→Nat)(o:TObj):HO→List U→(TObj→List U→β)→β
 | .dead,us,K=>K .dead us
 | .box cs,us,K=>fills g cs us fun vs us=>K (.box vs) us
 | .bx l,us,K=>match o with
  | .box cs=>VI g l (some cs) us fun c us=>match c with
   | some cs=>K (.box cs) us
   | none=>K .dead us
  | _=>VI g l none us fun _ us=>K .dead us
 | .own _,us,K=>match us with
  | ⟨.l e,xs⟩::us=>K (.own e xs) us
  | us=>K .dead us
 | .mp _,us,K=>match us with
  | ⟨.m e,xs⟩::us=>K (.mp e xs) us
  | us=>K .dead us
 | .arr _,us,K=>match us with
  | ⟨.l e,xs⟩::us=>K (.arr e xs) us
  | us=>K .dead us
def N9(g:Nat→Nat):List Ed→List U→List TV→List TObj→(List TV→List TObj→β)→β
 | [],_,t,h,K=>K t h
 | .r n s::es,us,t,h,K=>fill g s us fun v us=>yT t n v fun t=>N9 g es us t h K
 | .o l s::es,us,t,h,K=>Qc g (nth .dead h l) s us fun v us=>yT h l v fun h=>N9 g es us t h K
 | .w s::es,us,t,h,K=>Qc g .dead s us fun v us=>aAr h v fun h=>N9 g es us t h K
end
def wu:Sk→Nat
 | .lf (.t e)=>e.sz
 | _=>1
mutual
def atC:Sk→TV→List (Nat×Nat)
 | .ptr j _,v=>match v with | .ptr l _=>[(j,l)] | _=>[]
 | .mapr j,v=>match v with | .mapr l=>[(j,l)] | _=>[]
 | .own j,v=>match v with | .own l=>[(j,l)] | _=>[]
 | .psl j _,v=>match v with | .psl l _ _=>[(j,l)] | _=>[]
 | .eptr cs,v=>match v with | .eptr vs=>Ut cs vs | _=>[]
 | .agg cs,v=>match v with | .agg vs=>Ut cs vs | _=>[]
 | .tup cs,v=>match v with | .tup vs=>Ut cs vs | _=>[]
 | .func _ cs,v=>match v with | .func _ vs=>Ut cs vs | _=>[]
 | _,_=>[]
def Ut:List Sk→List TV→List (Nat×Nat)
 | s::ss,v::vs=>atC s v++Ut ss vs
 | _,_=>[]
end
def asc(m:List (Nat×Nat))(j:Nat):=match m with
 | []=>none
 | p::r=>bif Nat.beq p.1 j then some p.2 else asc r j
def az8(H:List TObj)(m:List (Nat×Nat))(j:Nat):HO→List (Nat×Nat)
 | .box cs=>match asc m j with
  | some l=>match nth .dead H l with
   | .box vs=>Ut cs vs
   | _=>[]
  | none=>[]
 | .bx is=>match asc m j with
  | some l=>match nth .dead H l with
   | .box vs=>is.flatMap fun p=>atC p.2 ((splitK 99 vs p.1 fun _ b=>b.head?).getD .unk)
   | _=>[]
  | none=>[]
 | _=>[]
def M6(t:List TV)(H:List TObj):Nat→List Ed→List (Nat×Nat)→List (Nat×Nat)
 | _,[],m=>m
 | j,.r n s::es,m=>M6 t H j es (m++atC s (nth .unk t n))
 | j,.o l h::es,m=>M6 t H j es (m++az8 H (m++[(l,l)]) l h)
 | j,.w h::es,m=>M6 t H (j+1) es (m++az8 H m j h)
def aC:List Ed→Nat
 | []=>0
 | .w _::es=>aC es+1
 | _::es=>aC es
def aGv:TV→Bool
 | .lf (.t _) _=>true
 | _=>false
def hd1{γ:Type}(vs:List TV)(F:TV→List TV→Option γ):=match vs with
 | []=>none
 | v::r=>bif aGv v then none else F v r
def oeq(a:Option Nat)(l:Nat):=match a with | some x=>Nat.beq x l | none=>false
section
variable {γ:Type}
mutual
def ext(m:Nat)(H:List TObj)(L:Nat→Option Nat):Sk→TV→(List U→Option γ)→Option γ
 | .unk,v,K=>match m with
  | 0=>match v with | .unk=>K [] | _=>none
  | _=>K []
 | .nilp,v,K=>match v with | .nilp=>K [] | _=>none
 | .nilF,v,K=>match v with | .nilF=>K [] | _=>none
 | .k c,v,K=>tL H (Nat.ble 1 m) c.t v fun u=>jM c.t u fun x=>bif c.is x then K [] else none
 | .nils,v,K=>match v with | .nils=>K [] | _=>none
 | .lf t,v,K=>match t with
  | .t e=>bif e.sc then none else match DR H v with
   | some cs=>P7 H (Nat.ble 1 m) 60 (.t e) cs fun u r=>match r with | []=>jM (.t e) u fun x=>K [⟨.t e,x⟩] | _=>none
   | none=>none
  | t=>tL H (Nat.ble 1 m) t v fun u=>jM t u fun x=>K [⟨t,x⟩]
 | .ptr j o,v,K=>match v with | .ptr l o'=>bif Nat.beq o o'&&oeq (L j) l then K [] else none | _=>none
 | .mapr j,v,K=>match v with | .mapr l=>bif oeq (L j) l then K [] else none | _=>none
 | .own j,v,K=>match v with
  | .own l=>bif oeq (L j) l then K [] else none
  | .nils=>bif Nat.ble 2 m&&(L j).isNone then K [] else none
  | _=>none
 | .psl j z,v,K=>match v with
  | .psl l z' none=>bif oeq (L j) l&&Nat.beq z z' then K [] else none
  | .nils=>bif Nat.ble 2 m&&(L j).isNone then K [] else none
  | _=>none
 | .eptr cs,v,K=>match v with
  | .eptr vs=>pV 0 H L cs vs K
  | _=>none
 | .agg cs,v,K=>match v with
  | .agg vs=>pV m H L cs vs K
  | .lf (.t e) x=>pV m H L cs [.lf (.t e) x] K
  | _=>none
 | .tup cs,v,K=>match v with
  | .tup vs=>ahK (bif Nat.ble 2 m then m else 0) H L cs vs K
  | _=>none
 | .func f cs,v,K=>match v with
  | .func f' vs=>bif Nat.beq f f' then ahK (bif Nat.ble 2 m then m else 0) H L cs vs K else none
  | _=>none
def ahK(m:Nat)(H:List TObj)(L:Nat→Option Nat):List Sk→List TV→(List U→Option γ)→Option γ
 | [],vs,K=>match vs with | []=>K [] | _=>none
 | s::ss,vs,K=>match vs with
  | []=>none
  | v::r=>ext m H L s v fun us=>ahK m H L ss r fun us'=>K (us++us')
def pV(m:Nat)(H:List TObj)(L:Nat→Option Nat):List Sk→List TV→(List U→Option γ)→Option γ
 | [],vs,K=>match vs with | []=>K [] | _=>none
 | s::ss,vs,K=>match s with
  | .lf t=>P7 H (Nat.ble 1 m) 60 t vs fun u r=>jM t u fun x=>pV m H L ss r fun us=>K (⟨t,x⟩::us)
  | .k c=>P7 H (Nat.ble 1 m) 60 c.t vs fun u r=>jM c.t u fun x=>bif c.is x then pV m H L ss r K else none
  | s=>hd1 vs fun v r=>ext m H L s v fun us=>pV m H L ss r fun us'=>K (us++us')
end
def atH(m:Nat)(H:List TObj)(L:Nat→Option Nat)(vs:List TV):List (Nat×Sk)→(List U→Option γ)→Option γ
 | [],K=>K []
 | p::ps,K=>splitK 99 vs p.1 fun _ b=>splitK 99 b (wu p.2) fun c _=>pV m H L [p.2] c fun us=>atH m H L vs ps fun us'=>K (us++us')
def aiQ(m:Nat)(H:List TObj)(L:Nat→Option Nat)(o:TObj):HO→(List U→Option γ)→Option γ
 | .dead,K=>K []
 | .box cs,K=>match o with | .box vs=>pV m H L cs vs K | _=>none
 | .bx l,K=>match o with | .box vs=>atH m H L vs l K | _=>none
 | .own e,K=>match o with | .own e' xs=>jM (.l e) ⟨.l e',xs⟩ fun x=>K [⟨.l e,x⟩] | _=>none
 | .mp e,K=>match o with | .mp e' xs=>jM (.m e) ⟨.m e',xs⟩ fun x=>K [⟨.m e,x⟩] | _=>none
 | .arr e,K=>match o with | .arr e' xs=>jM (.l e) ⟨.l e',xs⟩ fun x=>K [⟨.l e,x⟩] | _=>none
def Ai(m mo:Nat)(t:List TV)(H:List TObj)(L:Nat→Option Nat):Nat→List Ed→(List U→Option γ)→Option γ
 | _,[],K=>K []
 | j,.r n s::es,K=>ext m H L s (nth .unk t n) fun us=>Ai m mo t H L j es fun us'=>K (us++us')
 | j,.o l h::es,K=>aiQ mo H L (nth .dead H l) h fun us=>Ai m mo t H L j es fun us'=>K (us++us')
 | j,.w h::es,K=>match L j with
  | some l=>aiQ mo H L (nth .dead H l) h fun us=>Ai m mo t H L (j+1) es fun us'=>K (us++us')
  | none=>match h with
   | .own e=>bif Nat.ble 2 m then Ai m mo t H L (j+1) es fun us'=>K (⟨.l e,[]⟩::us') else none
   | .arr e=>bif Nat.ble 2 m then Ai m mo t H L (j+1) es fun us'=>K (⟨.l e,[]⟩::us') else none
   | _=>none
end
mutual
def rfB(n:Nat):TV→Bool
 | .ptr l _=>Nat.blt l n
 | .mapr l=>Nat.blt l n
 | .own l=>Nat.blt l n
 | .psl l _ _=>Nat.blt l n
 | .ap l _ _ _=>Nat.blt l n
 | .eptr cs=>gU n cs
 | .agg cs=>gU n cs
 | .tup cs=>gU n cs
 | .func _ cs=>gU n cs
 | .unk=>true | .nilp=>true | .nilF=>true | .nils=>true | .lf _ _=>true | .nat _=>true
def gU(n:Nat):List TV→Bool
 | []=>true
 | v::vs=>rfB n v&&gU n vs
end
def F6(n:Nat):List TObj→Bool
 | []=>true
 | o::os=>(match o with | .box cs=>gU n cs | .res=>false | _=>true)&&F6 n os
def dZ(n:Nat):List Nat→List Nat→List Ed→Bool
 | _,_,[]=>true
 | ss,os,.r k _::es=>!mem ss k&&dZ n (k::ss) os es
 | ss,os,.o l _::es=>Nat.blt l n&&(!mem os l&&dZ n ss (l::os) es)
 | ss,os,.w _::es=>dZ n ss os es
def aa4(l:Nat):List Ed→Bool
 | []=>false
 | .o l' h::es=>Nat.beq l l'&&(match h with | .dead=>true | _=>false) ||aa4 l es
 | _::es=>aa4 l es
def anv(n len:Nat)(L:Nat→Option Nat)(eds:List Ed):Nat→Nat→List Nat→Bool
 | _,0,_=>true
 | j,c+1,seen=>match L j with
  | none=>anv n len L eds (j+1) c seen
  | some l=>Nat.blt l len&&(!mem seen l&&((Nat.ble n l ||aa4 l eds)&&anv n len L eds (j+1) c (l::seen)))
def LJ n N m j:=bif Nat.blt j n then some j else bif Nat.blt j N then asc m j else none
@[reducible] def RT(pe:Option (List Ed))(R:Type):Type:=match pe with
 | none=>R
 | some eds=>PZ R (jg (bD eds))
def RT.el{R δ:Type}:(pe:Option (List Ed))→(R→Option δ)→((eds:List Ed)→Int→jg (bD eds)→Option δ)→RT pe R→Option δ
 | none,f,_=>f
 | some eds,f,g=>PZ.el f (g eds)
def RT.ok{R:Type}:(pe:Option (List Ed))→Option R→Option (RT pe R)
 | none,o=>o
 | some _,o=>o.map PZ.ok
structure Ent where
 f:Nat
 na:Nat
 ps:List Ed
 nr:Nat
 rs:List Ed
 R:Type
 pe:Option (List Ed)
 g:Option (jg (bD ps)→Bool)
 F:jg (bD ps)→Option (RT pe R)
 out:R→jg (bD rs)
def bZ(n:Nat):List TV:=List.replicate n .unk
def bI(n:Nat):=n
def res1:List TV→TV
 | [v]=>v
 | vs=>.tup vs
def kD l n:=nth 0 l n
def rng(k:Nat):Nat→List Nat
 | 0=>[]
 | n+1=>k::rng (k+1) n
def J5(f:Nat→Option Nat)(i:Nat):Nat→List Nat
 | 0=>[]
 | n+1=>match f i with
  | some l=>l::J5 f (i+1) n
  | none=>J5 f (i+1) n
def nodupB:List Nat→Bool
 | []=>true
 | x::xs=>bif mem xs x then false else nodupB xs
section
variable {γ:Type}
def wrB(l:Nat)(cs:List TV):List (Nat×Sk)→(List TWr→Option γ)→Option γ
 | [],K=>K []
 | p::ps,K=>splitK 99 cs p.1 fun _ b=>splitK 99 b (wu p.2) fun c _=>wrB l cs ps fun ws=>K (.st l p.1 c::ws)
def Hu(ρ:List Nat)(h:List TObj):Nat→Nat→List Ed→(List TWr→Option γ)→Option γ
 | _,_,[],K=>K []
 | k,j,.o l hd::es,K=>match hd with
  | .bx is=>match nth .dead h l with
   | .box cs=>wrB (kD ρ l) cs is fun ws=>Hu ρ h k j es fun ws'=>K (ws++ws')
   | _=>none
  | .dead=>Hu ρ h k j es fun ws=>K (.kill (kD ρ l)::ws)
  | _=>Hu ρ h k j es fun ws=>K (.ob (kD ρ l) (nth .dead h l)::ws)
 | k,j,.w _::es,K=>Hu ρ h (k+1) (j+1) es fun ws=>K (.nw k (nth .dead h j)::ws)
 | k,j,.r _ _::es,K=>Hu ρ h k j es K
end
def anT(H:List TObj)(k:Nat):Nat→Bool
 | 0=>true
 | n+1=>lI (nth .dead H k)&&anT H (k+1) n
mutual
def VG(n:Nat)(ds:List Nat):Sk→Bool
 | .ptr l _=>Nat.blt l n&&!mem ds l
 | .mapr l=>Nat.blt l n&&!mem ds l
 | .own l=>Nat.blt l n&&!mem ds l
 | .psl l _=>Nat.blt l n&&!mem ds l
 | .eptr cs=>yw n ds cs
 | .agg cs=>yw n ds cs
 | .tup cs=>yw n ds cs
 | .func _ cs=>yw n ds cs
 | .unk=>true | .nilp=>true | .nilF=>true | .nils=>true | .k _=>true | .lf _=>true
def yw(n:Nat)(ds:List Nat):List Sk→Bool
 | []=>true
 | s::ss=>VG n ds s&&yw n ds ss
end
def ah8(n:Nat)(ds:List Nat):HO→Bool
 | .box cs=>yw n ds cs
 | .bx is=>is.all fun p=>VG n ds p.2
 | _=>true
def killed:List Ed→List Nat
 | []=>[]
 | .o l hd::es=>(match hd with | .dead=>[l] | _=>[])++killed es
 | _::es=>killed es
def av3:HO→Bool
 | .box _=>true
 | .mp _=>true
 | _=>false
def aDv:HO→Bool
 | .box _=>true
 | _=>false
def kinds:List Ed→List HO
 | []=>[]
 | .w h::es=>h::kinds es
 | _::es=>kinds es
def aug(is:List (Nat×Sk)):Nat→List Sk→List Sk
 | _,[]=>[]
 | q,s::ss=>(bif Nat.beq (wu s) 1&&mem (is.flatMap fun p=>rng (p.1+1) (wu p.2)) (q+1) then .unk else s)::aug is (q+wu s) ss
def Dt(j:Nat):List Ed→Option HO
 | []=>none
 | .o l h::es=>bif Nat.beq l j then some h else Dt j es
 | .r _ _::es=>Dt j es
 | .w _::es=>Dt j es
def ah5(n:Nat)(rs:List Ed)(j:Nat):HO→Bool
 | .box cs=>yw n [] cs&&match Dt j rs with
  | none=>yw n (killed rs) cs
  | some (.bx is)=>yw n (killed rs) (aug is 0 cs)
  | some _=>true
 | .dead=>false
 | .bx _=>false
 | _=>true
def OP(np:Nat)(rs:List Ed):Nat→List Ed→Bool
 | _,[]=>true
 | j,.r _ s::es=>VG np [] s&&OP np rs j es
 | j,.w h::es=>ah5 np rs j h&&OP np rs (j+1) es
 | _,.o _ _::_=>false
def zW(n:Nat)(ds:List Nat)(ks:List HO):List Ed→Bool
 | []=>true
 | .r _ s::es=>VG n ds s&&zW n ds ks es
 | .w h::es=>(match h with | .dead=>false | .bx _=>false | h=>ah8 n ds h)&&zW n ds ks es
 | .o l h::es=>(match h with | .dead=>true | .own _=>false | .arr _=>false | .bx is=>ah8 n ds (.bx is)&&aDv (nth .dead ks l) | h=>ah8 n ds h&&av3 (nth .dead ks l))&&zW n ds ks es
def je:List Ed→List Nat
 | []=>[]
 | .r n _::es=>n::je es
 | _::es=>je es
def atD(l:List Nat):Nat→Bool
 | 0=>true
 | n+1=>mem l n&&atD l n
def M5(e:Ent):=
 (atD (je e.ps) e.na&&(je e.ps).all fun k=>Nat.blt k e.na)&&(dZ 0 [] [] e.ps&&(dZ (aC e.ps) [] [] e.rs&&(OP (aC e.ps) e.rs 0 e.ps&&zW (aC e.ps+aC e.rs) (killed e.rs) (kinds e.ps) e.rs)))&&match e.pe with
  | none=>true
  | some eds=>(je eds).isEmpty&&(dZ (aC e.ps) [] [] eds&&(OP (aC e.ps) eds 0 e.ps&&zW (aC e.ps+aC eds) (killed eds) (kinds e.ps) eds))
section
variable {γ:Type}
def amR(H:List TObj)k(vs:List TV)(e:Ent)(K:Nat→List Nat→List TWr→TV→Option γ)(X:Nat→List Nat→List TWr→Int→Option γ):=
 let np:=aC e.ps
 let nn:=aC e.rs
 let L:=LJ 0 np (M6 vs H 0 e.ps [])
 let ρ:=J5 L 0 np
 bif Nat.beq (List.length vs) e.na&&(Nat.beq ρ.length np&&(nodupB ρ&&anT H k nn)) then
  Ai 1 0 vs H L 0 e.ps fun us=>zD (bD e.ps) us fun x=>(e.F x).bind fun r=>RT.el e.pe (fun y=>
   N9 (kD (ρ++rng k nn)) e.ps us (bZ e.na) [] fun _ h=>N9 (kD (ρ++rng k nn)) e.rs (dU _ (e.out y)) (bZ e.nr) h fun r h'=>Hu ρ h' k np e.rs fun ws=>K nn (ρ++rng k nn) ws (res1 r)) (fun eds v z=>bif anT H k (aC eds) then
    N9 (kD (ρ++rng k (aC eds))) e.ps us (bZ e.na) [] fun _ h=>N9 (kD (ρ++rng k (aC eds))) eds (dU _ z) (bZ 0) h fun _ h'=>Hu ρ h' k np eds fun ws=>X (aC eds) (ρ++rng k (aC eds)) ws v else none) r
 else none
def aFd(H)vs(e:Ent):=Nat.beq (List.length vs) e.na&&(Ai 1 0 vs H (LJ 0 (aC e.ps) (M6 vs H 0 e.ps [])) 0 e.ps fun _=>some ()).isSome
def gdE(H)vs(e:Ent)(A B:Option γ):=match e.g with
 | none=>A
 | some g=>Ai 1 0 vs H (LJ 0 (aC e.ps) (M6 vs H 0 e.ps [])) 0 e.ps fun us=>zD (bD e.ps) us fun x=>cond (g x) A B
def aDY(fid:Nat):List Ent→Bool
 | []=>false
 | e::es=>Nat.beq e.f fid ||aDY fid es
def aua(H)(k fid:Nat)vs(E)K(X):=
 List.rec (motive:=fun _=>Option γ) none (fun e r ih=>bif Nat.beq e.f fid&&bif aDY fid r then aFd H vs e else true then gdE H vs e (amR H k vs e K X) ih else ih) E
end
end
end
section
open Go
noncomputable section
structure DS where
 t:List TV
 h:List TObj
 d:List Nat
 o:List (Nat×Nat)
 up:List Nat
 rl:List (Nat×Nat×Nat)
 cp:List (Nat×Nat)
 oo:List (Nat×Nat)
inductive Hn where
 | jn (eds:List Ed) (lr:Bool)
 | lp (hd:List Ed) (e:Nat) (ex:List Ed)
 | fz (ls:List Nat)
 | ct (l b off:Nat)
 | ca (l b off:Nat)
 | fa (ls:List Nat)
structure Cfg where
 τ:Nat→TI
 θ:Nat→Option ET
 n:Nat
 R:Type
 hs:List (Nat×Hn)
 m:Nat
 te:Nat
 pn:Int→DS→Option R
mutual
def uZ(l:Nat):TV→Bool
 | .ptr l' _=>!Nat.beq l' l
 | .mapr l'=>!Nat.beq l' l
 | .own l'=>!Nat.beq l' l
 | .psl l' _ _=>!Nat.beq l' l
 | .ap l' _ _ _=>!Nat.beq l' l
 | .eptr cs=>pF l cs
 | .agg cs=>pF l cs
 | .tup cs=>pF l cs
 | .func _ cs=>pF l cs
 | .unk=>true | .nilp=>true | .nilF=>true | .nils=>true | .lf _ _=>true | .nat _=>true
def pF(l:Nat):List TV→Bool
 | []=>true
 | v::vs=>uZ l v&&pF l vs
end
def avv(H:List TObj)(cs:List TV):Option (Decl×List Decl):=P7 H false 60 (.t .dec) cs fun u r=>match r with
 | [.lf (.f .dec) xs]=>jM (.t .dec) u fun x=>some (x,xs)
 | [.nilp]=>jM (.t .dec) u fun x=>some (x,[])
 | _=>none
def aai(H:List TObj)(l:Nat):Nat→TV
 | 0=>match nth .dead H l with
  | .box cs=>bif pF l cs then match avv H cs with
   | some p=>.lf (.f .dec) (p.1::p.2)
   | none=>.eptr cs else .unk
  | _=>.unk
 | _+1=>.unk
def atO(H:List TObj)(l:Nat):TV:=match nth .dead H l with
 | .own e xs=>.lf (.l e) xs
 | _=>.unk
def auB(H:List TObj)(l z:Nat):Option Nat→TV
 | none=>match nth .dead H l with
  | .arr e xs=>bif YD e z then .lf (.l e) xs else .unk
  | _=>.unk
 | some _=>.unk
mutual
def fP(H:List TObj)(l:Nat):TV→TV
 | .ptr l' o=>bif Nat.beq l' l then aai H l o else .ptr l' o
 | .mapr l'=>bif Nat.beq l' l then .unk else .mapr l'
 | .own l'=>bif Nat.beq l' l then atO H l else .own l'
 | .psl l' z c=>bif Nat.beq l' l then auB H l z c else .psl l' z c
 | .ap l' i z o=>bif Nat.beq l' l then .unk else .ap l' i z o
 | .eptr cs=>.eptr (mG H l cs)
 | .agg cs=>.agg (mG H l cs)
 | .tup cs=>.tup (mG H l cs)
 | .func f cs=>.func f (mG H l cs)
 | .unk=>.unk | .nilp=>.nilp | .nilF=>.nilF | .nils=>.nils | .lf t x=>.lf t x | .nat n=>.nat n
def mG(H:List TObj)(l:Nat):List TV→List TV
 | []=>[]
 | v::vs=>fP H l v::mG H l vs
end
def Zy(H:List TObj)(l:Nat):TObj→TObj
 | .box cs=>.box (mG H l cs)
 | .res=>.dead
 | o=>o
def vS(H:List TObj)(l:Nat):Nat→List TObj→List TObj
 | _,[]=>[]
 | i,o::os=>(bif Nat.beq i l then .dead else Zy H l o)::vS H l (i+1) os
def aax(l:Nat):Nat→List TV→List Nat
 | _,[]=>[]
 | k,v::vs=>bif uZ l v then aax l (k+1) vs else k::aax l (k+1) vs
def Pp(l:Nat):Nat→List TObj→List (Nat×Nat)
 | _,[]=>[]
 | i,o::os=>match o with
  | .box cs=>bif pF l cs then Pp l (i+1) os else(i,0)::Pp l (i+1) os
  | _=>Pp l (i+1) os
def Lx(l:Nat)(s:DS):DS:=⟨mG s.h l s.t,vS s.h l 0 s.h,aax l 0 s.t++s.d,(l,0)::(Pp l 0 s.h++s.o),s.up,s.rl,s.cp,s.oo⟩
def hint(hs:List (Nat×Hn))(p:Nat):=match hs with
 | []=>none
 | x::r=>bif Nat.beq x.1 p then some x.2 else hint r p
section
variable {γ:Type}
def plainO:TObj→Bool
 | .box _=>true
 | .mp _ _=>true
 | .dead=>true
 | _=>false
mutual
def ami(l:Nat):TV→Bool
 | .own l'=>Nat.beq l l'
 | .psl l' _ _=>Nat.beq l l'
 | .eptr cs=>ko l cs
 | .agg cs=>ko l cs
 | .tup cs=>ko l cs
 | .func _ cs=>ko l cs
 | .unk=>false | .nilp=>false | .nilF=>false | .nils=>false | .lf _ _=>false | .nat _=>false | .ptr _ _=>false | .mapr _=>false | .ap _ _ _ _=>false
def ko(l:Nat):List TV→Bool
 | []=>false
 | v::vs=>ami l v ||ko l vs
end
def SC(l:Nat):List TObj→Bool
 | []=>false
 | o::os=>(match o with | .box cs=>ko l cs | _=>false) ||SC l os
def fV(v:TV)(K:TV→Option γ):=match v with
 | .lf t x=>K (.lf t x)
 | v=>K v
def az6{α:Type}l:=
 List.rec (motive:=fun _=>Nat→α→(List α→Option γ)→Option γ) (fun _ _ _=>none) (fun x xs ih n v K=>Nat.rec (motive:=fun _=>Option γ) (K (v::xs)) (fun m _=>ih m v fun ys=>K (x::ys)) n) l
def DC:List TWr→DS→(DS→Option γ)→Option γ
 | [],s,K=>K s
 | .sl n v::ws,s,K=>fV v fun v=>az6 s.t n v fun t=>DC ws ⟨t,s.h,n::s.d,s.o,s.up.filter fun i=>!Nat.beq i n,s.rl.filter fun p=>!(Nat.beq p.1 n ||(Nat.beq p.2.1 n ||Nat.beq p.2.2 n)),s.cp.filter fun p=>!(Nat.beq p.1 n ||Nat.beq p.2 n),s.oo⟩ K
 | .ob l o::ws,s,K=>bif plainO o&&plainO (nth .dead s.h l) then yT s.h l o fun h=>DC ws {s with h:=h,o:=(l,0)::s.o} K else none
 | .st l off vs::ws,s,K=>match nth .dead s.h l with
  | .box cs=>tX cs off vs fun cs=>yT s.h l (.box cs) fun h=>DC ws {s with h:=h,o:=(rng (off+1) (widths vs)).map (fun q=>(l,q))++s.o} K
  | _=>none
 | .kill l::ws,s,K=>match nth .dead s.h l with
  | .own e xs=>yT s.h l (.gone e xs) fun h=>DC ws {s with h:=h,o:=(l,0)::s.o} K
  | .arr _ xs=>yT s.h l (.gon xs.length) fun h=>DC ws {s with h:=h,o:=(l,0)::s.o} K
  | .box _=>yT s.h l .dead fun h=>DC ws {s with h:=h,o:=(l,0)::s.o} K
  | .mp _ _=>yT s.h l .dead fun h=>DC ws {s with h:=h,o:=(l,0)::s.o} K
  | _=>none
 | .nw l o::ws,s,K=>bif lI (nth .dead s.h l)&&(plainO o ||!(ko l s.t ||SC l s.h)) then yT s.h l o fun h=>DC ws {s with h:=h,o:=(l,0)::s.o} K else none
 | .up l i e y::ws,s,K=>match nth .dead s.h l with
  | .arr e' xs=>match ET.eq? e e' with
   | some ⟨q⟩=>yT s.h l (.arr e' (upd xs i (q▸y))) fun h=>DC ws {s with h:=h,o:=(l,0)::s.o} K
   | none=>none
  | _=>none
def erase:List TWr→List Wr
 | []=>[]
 | .sl n _::ws=>.slot n .unk::erase ws
 | .ob l _::ws=>.obj l .dead::erase ws
 | .st l _ _::ws=>.obj l .dead::erase ws
 | .kill l::ws=>.obj l .dead::erase ws
 | .nw l _::ws=>.obj l .dead::erase ws
 | .up l _ _ _::ws=>.obj l .dead::erase ws
def GD(o:Oper)(s:DS):=match o.op,o.dst with
 | .binOp .lss _ (.tmp i) (.tmp j) _,some d=>bif Nat.beq d i ||Nat.beq d j then s else{s with rl:=(d,i,j)::s.rl}
 | .move (.tmp x),some d=>bif Nat.beq d x then s else{s with cp:=(d,x)::s.cp,up:=bif mem s.up x then d::s.up else s.up}
 | _,_=>s
def opK(τ:Nat→TI)(θ:Nat→Option ET)(E:List Ent)(px:Int→DS→Option γ)(ops:List Oper)(o:Oper)(go:Nat→List Eff→DS→Option γ)(k:Nat)(es:List Eff)(s:DS):Option γ:=
 match lu o.op with
 | some (f,args)=>match eF s.t f with
  | .func fid caps=>aua s.h k fid (args.toList.map (eF s.t)++caps) E (fun nn ρ ws v=>DC (ws++eH o.dst v) s fun s=>go (k+nn) (⟨aX ops.toArray o,ρ,ρ.map (fun l=>.obj l .dead)++erase (eH o.dst v)⟩::es) s) fun _ _ ws c=>DC ws s fun s=>px c s
  | _=>none
 | none=>dA τ θ s.up k o.dst s.t s.h o.op fun rd ws=>DC ws s fun s1=>go (k+iW o.op) (⟨aX ops.toArray o,rd,erase ws⟩::es) (GD o s1)
def gdK(ops:List Oper)(o:Oper)(s:DS)(A B:DS→Option γ):Option γ:=
 match o.guard with
 | none=>A s
 | some (j,want)=>match(ops[j]?).bind (·.dst) with
  | none=>none
  | some d=>match nth .unk s.t d with
   | .lf .b b=>bif want then cond b (yT s.t d (.lf .b true) fun t=>A {s with t:=t}) (yT s.t d (.lf .b false) fun t=>B {s with t:=t}) else cond b (yT s.t d (.lf .b true) fun t=>B {s with t:=t}) (yT s.t d (.lf .b false) fun t=>A {s with t:=t})
   | .tup []=>B s
   | _=>none
def Vb τ θ E px ops l:=
 List.rec (motive:=fun _=>Nat→List Eff→DS→(List Eff→DS→Option γ)→Option γ) (fun _ es s K=>K es.reverse s)
  (fun o _ ih k es s K=>gdK ops o s (opK τ θ E px ops o (fun k es s=>ih k es s K) k es) fun s=>DC (eH o.dst (.tup [])) s fun s=>ih k (⟨aX ops.toArray o,[],erase (eH o.dst (.tup []))⟩::es) s K) l
def yY:List Oper→Nat
 | []=>0
 | o::l=>(match lu o.op with
  | some _=>5
  | none=>iW o.op)+yY l
def xC:Nat→List TObj
 | 0=>[]
 | n+1=>.res::xC n
def ag2 l:=
 List.rec (motive:=fun _=>Nat→(List TObj→Option γ)→Option γ) (fun _ K=>K []) (fun o _ ih n K=>Nat.rec (motive:=fun _=>Option γ) (ih 0 fun r=>match r with
  | []=>bif lI o then K [] else K [o]
  | x::xs=>K (o::x::xs)) (fun n _=>ih n fun r=>K (o::r)) n) l
def Gd{α:Type}:List α→Nat→(Nat→Option γ)→Option γ
 | [],n,K=>K n
 | _::l,n,K=>Gd l (n+1) K
def ayP:List Oper→List Nat
 | []=>[]
 | o::l=>match o.dst with
  | some d=>d::ayP l
  | none=>ayP l
def nQ:Code→List Nat
 | .region _ ops _=>ayP ops.toList
 | .seq a b=>nQ a++nQ b
 | .cond _ a b=>nQ a++nQ b
 | .block _ a=>nQ a
 | .loop a=>nQ a
 | _=>[]
def auG:List Nat→List Nat→Bool
 | [],_=>true
 | x::xs,l=>mem l x&&auG xs l
def Yt(H:List TObj):List Ed→List (Nat×Nat)
 | []=>[]
 | .o l h::es=>(match h with
  | .bx is=>match nth .dead H l with
   | .box _=>is.flatMap fun p=>(rng (p.1+1) (wu p.2)).map fun q=>(l,q)
   | _=>[(l,0)]
  | _=>[(l,0)])++Yt H es
 | _::es=>Yt H es
def cov:List Ed→Nat→Nat→Bool
 | [],_,_=>false
 | .o l h::es,l',q=>Nat.beq l l'&&(match h with | .bx is=>mem (is.flatMap fun p=>rng (p.1+1) (wu p.2)) q | _=>true) ||cov es l' q
 | _::es,l',q=>cov es l' q
def auz l:=List.rec (motive:=fun _=>List TV→(List TV→Option γ)→Option γ) (fun t K=>K t) (fun n _ ih t K=>yT t n .unk fun t=>ih t K) l
def Jj(a)eds(s:DS)us(K:DS→Option γ):=
 let b:=a++je eds
 auz b s.t fun t=>N9 bI eds us t s.h fun t h=>K ⟨t,h,b++s.d,Yt h eds++s.o,s.up.filter fun i=>!mem b i,[],[],s.oo⟩
def ap2(n:Nat)(o:List (Nat×Nat))es:=o.all fun x=>Nat.ble n x.1 ||cov es x.1 x.2
def DK eds(s:DS)(K:Option γ):=Gd s.h 0 fun n=>bif gU n s.t&&(F6 n s.h&&dZ n [] [] eds) then K else none
def apS(n)eds(t)h(K:List U→Option γ):=
 Gd h 0 fun n'=>let L:=LJ n (n+aC eds) (M6 t h n eds []);bif anv n n' L eds n (aC eds) [] then Ai 2 2 t h L n eds K else none
def F8(a:List Nat)eds(s s':DS)(K:List U→Option γ):=
 Gd s.h 0 fun n=>bif auG s'.d (a++je eds)&&ap2 n s'.o eds then apS n eds s'.t s'.h K else none
def fresh(s:DS):={s with d:=[],o:=[],oo:=s.o++s.oo}
def anw(m:Nat):List Nat→DS→(DS→Option γ)→Option γ
 | [],s,K=>K s
 | l::ls,s,K=>Gd s.h 0 fun n=>bif Nat.ble m l&&(Nat.blt l n&&(gU n s.t&&F6 n s.h)) then anw m ls (Lx l s) K else none
def WJ(l:Nat):List TV→List TV
 | []=>[]
 | v::vs=>(bif uZ l v then v else .unk)::WJ l vs
def ctK(l b off:Nat)(s:DS)(K:DS→Option γ):Option γ:=match nth .dead s.h l,nth .dead s.h b with
 | .arr e xs,.box cs=>splitK 99 cs off fun a r=>match r with
  | .psl l' z (some c)::r=>Gd s.h 0 fun n=>bif Nat.beq l' l&&(pF l a&&pF l r)&&((Pp l 0 s.h).all (fun p=>Nat.beq p.1 b)&&(gU n s.t&&F6 n s.h)) then
    bif Nat.ble c xs.length then yT s.h l (.arr e (xs.take c)) fun h=>yT h b (.box (a++ .psl l z none::r)) fun h=>K ⟨WJ l s.t,h,aax l 0 s.t++s.d,(l,0)::(b,off+1)::s.o,s.up,s.rl,s.cp,s.oo⟩ else none
   else none
  | _=>none
 | _,_=>none
def fzH m(h:Option Hn)(s:DS)(K:DS→Option γ):=match h with
 | some (.fz ls)=>anw m ls s K
 | some (.ct l b off)=>ctK l b off s K
 | _=>K s
def fzA m(h:Option Hn)(s:DS)(K:DS→Option γ):=match h with
 | some (.ca l b off)=>ctK l b off s K
 | some (.fa ls)=>anw m ls s K
 | _=>K s
def sel{α:Type}(f:α→Bool)(g:α→Nat):List α→List Nat
 | []=>[]
 | x::l=>bif f x then g x::sel f g l else sel f g l
def Lv(x:Operand)(s:DS):DS:=match x with
 | .tmp d=>let u:=sel (fun p=>Nat.beq p.1 d) (fun p=>p.2.1) s.rl
  let u:=sel (fun p=>mem u p.1) (fun p=>p.2) s.cp++u
  let u:=sel (fun p=>mem u p.2) (fun p=>p.1) s.cp++u
  {s with up:=u++s.up}
 | _=>s
end
abbrev ExT(R:Type):=(γ:Type)→Nat→DS→(R→Option γ)→(Exit→DS→Option γ)→Option γ
def aiU(te:Nat)(t:List TV):List Oper→Option Int
 | [o1,o2]=>match o1.op,o1.dst,o1.guard with
  | .makeInterface t' (.const (.int .i64 e)),some d,none=>match o2.op,o2.dst,o2.guard with
   | .panic (.tmp d'),none,none=>bif Nat.beq t' te&&(Nat.beq d d'&&Nat.blt d t.length) then some e else none
   | _,_,_=>none
  | _,_,_=>none
 | _=>none
def exe(c:Cfg)E(ret:DS→Option c.R)code:=
 Code.rec (motive:=fun _=>ExT c.R)
  (skip:=fun _ _ s _ k=>k .normal s)
  (region:=fun _ ops draw _ p s inj k=>fzH c.m (hint c.hs p) s fun s=>match aiU c.te s.t ops.toList with
   | some e=>bif draw then none else(c.pn e s).bind inj
   | none=>Gd s.h 0 fun n=>Vb c.τ c.θ E (fun v s=>bif draw then none else(c.pn v s).bind inj) ops.toList ops.toList n [] {s with h:=s.h++xC (yY ops.toList)} fun es s=>bif !draw ||kY ops.toList es then ag2 s.h n fun h=>fzA c.m (hint c.hs p) {s with h:=h} fun s=>k .normal s else none)
  (seq:=fun a _ iha ihb γ p s inj k=>match hint c.hs p with
   | some (.jn eds true)=>DK eds s <| Option.bind (iha (LR (jg (bD eds)) c.R) (2*p) (fresh s) (fun r=>some (.rt r)) fun e s'=>match e with
     | .normal=>F8 (nQ a) eds s s' fun us=>zD (bD eds) us fun x=>some (.nx x)
     | _=>none) (LR.el (fun x=>Jj (nQ a) eds s (dU (bD eds) x) fun s=>ihb γ (2*p+1) s inj k) (fun r=>inj r))
   | some (.jn eds false)=>DK eds s <| Option.bind (iha (jg (bD eds)) (2*p) (fresh s) (fun _=>none) fun e s'=>match e with
     | .normal=>F8 (nQ a) eds s s' fun us=>zD (bD eds) us fun x=>some x
     | _=>none) fun x=>Jj (nQ a) eds s (dU (bD eds) x) fun s=>ihb γ (2*p+1) s inj k
   | _=>iha γ (2*p) s inj fun e s=>match e with
    | .normal=>ihb γ (2*p+1) s inj k
    | e=>k e s)
  (cond:=fun x _ _ iha ihb γ p s inj k=>match eF s.t x with
   | .lf .b b=>cond b (iha γ (2*p) (Lv x s) inj k) (ihb γ (2*p+1) s inj k)
   | _=>none)
  (block:=fun id _ ih γ p s inj k=>ih γ (2*p) s inj fun e s=>match e with
   | .exit id'=>bif Nat.beq id' id then k .normal s else k (.exit id') s
   | e=>k e s)
  (loop:=fun a ih γ p s inj k=>match hint c.hs p with
   | some (.lp hd e ex)=>DK hd s <| DK ex s <| F8 (nQ a) hd s (fresh s) fun us=>zD (bD hd) us fun x0=>
     Option.bind (aG (δ:=LR (jg (bD ex)) c.R) (fun rec x=>Jj (nQ a) hd (fresh s) (dU (bD hd) x) fun s1=>ih (LR (jg (bD ex)) c.R) (2*p) s1 (fun r=>some (.rt r)) fun e' s'=>match e' with
      | .normal=>F8 (nQ a) hd s s' fun us=>zD (bD hd) us rec
      | .exit id=>bif Nat.beq id e then F8 (nQ a) ex s s' fun us=>zD (bD ex) us fun y=>some (.nx y) else none
      | _=>none) c.n x0) (LR.el (fun y=>Jj (nQ a) ex s (dU (bD ex) y) fun s=>k (.exit e) s) (fun r=>inj r))
   | _=>none)
  (rangeFunc:=fun _ _ _ _ _ _ _ _ _ _ _=>none)
  (exit:=fun id _ _ s _ k=>k (.exit id) s)
  (scope:=fun _ _ _ _ _ _ _=>none)
  (label:=fun _ _ _ _ _ _=>none)
  (goto:=fun _ _ _ _ _ _=>none)
  (ret:=fun _ p s inj _=>fzH c.m (hint c.hs p) s fun s=>(ret s).bind inj)
  (refuse:=fun _ _ _ _ _ _=>none)
  code
def aeX{γ:Type}(τ:Nat→TI)(s:DS):List ResultVar→(List TV→Option γ)→Option γ
 | [],K=>K []
 | .tmp t::r,K=>aeX τ s r fun vs=>K (nth .unk s.t t::vs)
 | .cell a t::r,K=>match nth .unk s.t a with
  | .ptr l off=>match nth .dead s.h l with
   | .box cs=>ldK τ t off cs fun v=>aeX τ s r fun vs=>K (v::vs)
   | _=>none
  | _=>none
def BF{R:Type}τ(m)rvs(rs)(inn:jg (bD rs)→Option R)s:=
 aeX τ s rvs fun vs=>bif ap2 m (s.o++s.oo) rs then apS m rs vs s.h fun us=>zD (bD rs) us inn else none
def RG{R:Type}(m:Nat):(pe:Option (List Ed))→Int→DS→Option (RT pe R)
 | none,_,_=>none
 | some eds,v,s=>bif ap2 m (s.o++s.oo) eds then apS m eds [] s.h fun us=>zD (bD eds) us fun z=>some (.er v z) else none
def ait(τ:Nat→TI)(θ:Nat→Option ET)(n:Nat)(hs:List (Nat×Hn))(E:List Ent)(te:Nat)(fn:Func)(e:Ent)(inn:jg (bD e.rs)→Option e.R)(x:jg (bD e.ps)):Option (RT e.pe e.R):=
 match fn.body with
 | none=>none
 | some c=>N9 bI e.ps (dU (bD e.ps) x) (List.replicate fn.ntmps (.tup [])) [] fun t h=>
  exe ⟨τ,θ,n,RT e.pe e.R,hs,aC e.ps,te,RG (aC e.ps) e.pe⟩ E (fun s=>RT.ok e.pe (BF τ (aC e.ps) fn.results.toList e.rs inn s)) c _ 1 ⟨t,h,[],[],[],[],[],[]⟩ some fun x s=>match x with
   | .normal=>RT.ok e.pe (BF τ (aC e.ps) fn.results.toList e.rs inn s)
   | _=>none
end
end
section
open Go
def leS(a b:Str):=decide (a≤b)
def slices_Clone_int(_:Nat)p0:=app 8 ([]:List Int) p0
def mQ(_:Nat)(p0:List (Str×Bool)):=if p0.length*16≤140737488355328 then some ((p0.map (·.1)).mergeSort leS) else none
def ahp(_:Nat)(_:List (Str×Bool)):=some ()
end
section
open Go
def strings_Compare(_:Nat)(a b:Str):=some (Lib.compareBytes a b)
def iG(_:Nat):=some true
end
section
open Go
theorem Val.ind{P:Val→Prop}(h:∀k n s ks,(∀t∈ks,P t)→P (.mk k n s ks)) t:P t:=by
 match t with
 | .mk k n s ks=>exact h k n s ks fun u _=>Val.ind h u
termination_by SizeOf.sizeOf t
decreasing_by
 rename_i hu;have:=qCN hu;simp only[Val.mk.sizeOf_spec];omega
mutual
def mP:Val→Prop
 | .mk _ _ _ ks=>ks.length≤9223372036854775807∧aaP ks
def aaP:List Val→Prop
 | []=>True
 | v::vs=>mP v∧aaP vs
end
def jQ(a b:Int):=cond (decide (a<b)) (-1) (cond (decide (b<a)) 1 0)
mutual
def bH:Val→Val→Int
 | .mk k n s ks,.mk k' n' s' ks'=>cond (jQ k k' !=0) (jQ k k') (cond (jQ n n' !=0) (jQ n n') (cond (Lib.compareBytes s s' !=0) (Lib.compareBytes s s') (dI ks ks')))
def dI:List Val→List Val→Int
 | [],[]=>0
 | [],_::_=> -1
 | _::_,[]=>1
 | a::asx,b::bs=>cond (bH a b !=0) (bH a b) (dI asx bs)
end
end
section
open Go
theorem ahv a b:jQ a b<0↔a<b:=by
 unfold jQ;by_cases h:a<b
 ·simp[h]
 ·by_cases h2:b<a<;>simp[h,h2]
theorem pY a b:jQ a b=0↔a=b:=by
 unfold jQ;by_cases h:a<b
 ·simp[h];omega
 ·by_cases h2:b<a
  ·simp[h,h2];omega
  ·simp[h,h2];omega
theorem ajw a b:jQ b a= - jQ a b:=by
 unfold jQ;by_cases h:a<b
 ·have:¬b<a:=by omega
  simp[h,this]
 ·by_cases h2:b<a<;>simp[h,h2]
theorem Nu:∀s t,Lib.compareBytes s t=0↔s=t
 | [],[]=>by simp[Lib.compareBytes]
 | [],_::_=>by simp[Lib.compareBytes]
 | _::_,[]=>by simp[Lib.compareBytes]
 | a::s,b::t=>by
  have ih:=Nu s t;unfold Lib.compareBytes;by_cases h1:a<b
  ·simp only[h1,if_true];constructor
   ·intro h;cases h
   ·intro h;cases h;exact absurd h1 (by simp)
  ·by_cases h2:b<a
   ·simp only[h1,h2,if_false,if_true];constructor
    ·intro h;cases h
    ·intro h;cases h;exact absurd h2 (by simp)
   ·simp only[h1,h2,if_false];have:a=b:=qDn (by simpa using h2) (by simpa using h1);subst this;rw[ih];simp
theorem arF:∀s t,Lib.compareBytes t s= - Lib.compareBytes s t
 | [],[]=>by simp[Lib.compareBytes]
 | [],_::_=>by simp[Lib.compareBytes]
 | _::_,[]=>by simp[Lib.compareBytes]
 | a::s,b::t=>by
  have ih:=arF s t;unfold Lib.compareBytes;by_cases h1:a<b
  ·have:¬b<a:=fun h=>absurd (UInt8.lt_trans h1 h) (by simp);simp[h1,this]
  ·by_cases h2:b<a
   ·simp[h1,h2]
   ·simp[h1,h2,ih]
theorem aAD:∀s t u,Lib.compareBytes s t<0→Lib.compareBytes t u<0→Lib.compareBytes s u<0
 | [],[],_,h,_=>by simp[Lib.compareBytes] at h
 | _::_,[],_,h,_=>by simp[Lib.compareBytes] at h
 | [],_::_,[],_,h=>by simp[Lib.compareBytes] at h
 | [],_::_,_::_,_,_=>by simp[Lib.compareBytes]
 | _::_,_::_,[],_,h=>by simp[Lib.compareBytes] at h
 | a::s,b::t,c::u,h1,h2=>by
  have ih:=aAD s t u;unfold Lib.compareBytes at h1 h2⊢;by_cases ab:a<b
  ·by_cases bc:b<c
   ·simp[UInt8.lt_trans ab bc]
   ·by_cases cb:c<b
    ·simp[bc,cb] at h2
    ·have:b=c:=qDn (by simpa using cb) (by simpa using bc);subst this;simp[ab]
  ·by_cases ba:b<a
   ·simp[ab,ba] at h1
   ·have:a=b:=qDn (by simpa using ba) (by simpa using ab);subst this;simp only[ab,if_false] at h1;by_cases ac:a<c
    ·simp[ac]
    ·by_cases ca:c<a
     ·simp[ac,ca] at h2
     ·simp only[ac,ca,if_false] at h2⊢;exact ih h1 h2
def lex(x y:Int):=cond (x !=0) x y
theorem Fy x y:lex x y<0↔x<0∨x=0∧y<0:=by
 unfold lex;by_cases h:x=0
 ·subst h;simp
 ·have:(x !=0)=true:=by simp[h]
  rw[this];simp[h]
theorem Jp x y:lex x y=0↔x=0∧y=0:=by
 unfold lex;by_cases h:x=0
 ·subst h;simp
 ·have:(x !=0)=true:=by simp[h]
  rw[this];simp[h]
theorem UM x y:lex (-x) (-y)= - lex x y:=by
 unfold lex;by_cases h:x=0
 ·subst h;simp
 ·have h1:(x !=0)=true:=by simp[h]
  have h2:(-x !=0)=true:=by simp;omega
  rw[h1,h2];simp
theorem Cy k n s ks k' n' s' ks':bH (.mk k n s ks) (.mk k' n' s' ks')=lex (jQ k k') (lex (jQ n n') (lex (Lib.compareBytes s s') (dI ks ks'))):=by
 unfold bH lex;rfl
theorem rP a b asx bs:dI (a::asx) (b::bs)=lex (bH a b) (dI asx bs):=by
 simp only[dI,lex]
mutual
theorem fK:∀a b,bH a b=0↔a=b
 | .mk k n s ks,.mk k' n' s' ks'=>by
  rw[Cy,Jp,Jp,Jp,pY,pY,Nu,Vm ks ks'];simp
theorem Vm:∀(asx bs:List Val),dI asx bs=0↔asx=bs
 | [],[]=>by simp[dI]
 | [],_::_=>by simp[dI]
 | _::_,[]=>by simp[dI]
 | a::asx,b::bs=>by
  rw[rP,Jp,fK a b,Vm asx bs];simp
end
mutual
theorem oW:∀a b,bH b a= - bH a b
 | .mk k n s ks,.mk k' n' s' ks'=>by
  rw[Cy,Cy,ajw k k',ajw n n',arF s s',agN ks ks',UM,UM,UM]
theorem agN:∀(asx bs:List Val),dI bs asx= - dI asx bs
 | [],[]=>by simp[dI]
 | [],_::_=>by simp[dI]
 | _::_,[]=>by simp[dI]
 | a::asx,b::bs=>by
  rw[rP,rP,oW a b,agN asx bs,UM]
end
mutual
theorem zN:∀a b c,bH a b<0→bH b c<0→bH a c<0
 | .mk k n s ks,.mk k' n' s' ks',.mk k'' n'' s'' ks'',h1,h2=>by
  rw[Cy,Fy,Fy,Fy,ahv,pY,ahv,pY,Nu] at h1 h2⊢;rcases h1 with h1 | ⟨rfl,h1⟩
  ·rcases h2 with h2 | ⟨rfl,h2⟩
   ·left;omega
   ·left;exact h1
  ·rcases h2 with h2 | ⟨rfl,h2⟩
   ·left;exact h2
   ·right;refine⟨rfl,?_⟩;rcases h1 with h1 | ⟨rfl,h1⟩
    ·rcases h2 with h2 | ⟨rfl,h2⟩
     ·left;omega
     ·left;exact h1
    ·rcases h2 with h2 | ⟨rfl,h2⟩
     ·left;exact h2
     ·right;refine⟨rfl,?_⟩;rcases h1 with h1 | ⟨rfl,h1⟩
      ·rcases h2 with h2 | ⟨rfl,h2⟩
       ·left;exact aAD _ _ _ h1 h2
       ·left;exact h1
      ·rcases h2 with h2 | ⟨rfl,h2⟩
       ·left;exact h2
       ·right;exact⟨rfl,ao6 ks ks' ks'' h1 h2⟩
theorem ao6:∀(asx bs cs:List Val),dI asx bs<0→dI bs cs<0→dI asx cs<0
 | [],[],_,h,_=>by simp[dI] at h
 | _::_,[],_,h,_=>by simp[dI] at h
 | [],_::_,[],_,h=>by simp[dI] at h
 | [],_::_,_::_,_,_=>by simp[dI]
 | _::_,_::_,[],_,h=>by simp[dI] at h
 | a::asx,b::bs,c::cs,h1,h2=>by
  rw[rP,Fy,fK] at h1 h2⊢;rcases h1 with h1 | ⟨rfl,h1⟩
  ·rcases h2 with h2 | ⟨rfl,h2⟩
   ·left;exact zN a b c h1 h2
   ·left;exact h1
  ·rcases h2 with h2 | ⟨rfl,h2⟩
   ·left;exact h2
   ·right;exact⟨rfl,ao6 asx bs cs h1 h2⟩
end
def Sc a b:=decide (bH a b≤0)
theorem axA a b c (h1:Sc a b=true)(h2:Sc b c=true):Sc a c=true:=by
 simp only[Sc,decide_eq_true_eq] at *;rcases qDe h1 with h1 | h1
 ·rcases qDe h2 with h2 | h2
  ·exact qDt (zN a b c h1 h2)
  ·rw[(fK b c).1 h2] at h1;exact qDt h1
 ·rw[(fK a b).1 h1];exact h2
def kJ a b:=bH a b<0
theorem Cn a:¬kJ a a:=by
 have:=(fK a a).2 rfl;unfold kJ;omega
theorem ZY{a b}(h:kJ a b):¬kJ b a:=by
 unfold kJ at *;rw[oW a b];omega
def Ez(a:Val):List Val→List Val
 | []=>[a]
 | b::l=>cond (decide (bH a b<0)) (a::b::l) (cond (bH a b==0) (b::l) (b::Ez a l))
def sortV:List Val→List Val
 | []=>[]
 | a::l=>Ez a (sortV l)
theorem adv a:∀l x,x∈Ez a l↔x=a∨x∈l
 | [],x=>by simp[Ez]
 | b::l,x=>by
  unfold Ez;by_cases h:bH a b<0
  ·simp[h]
  ·by_cases h2:bH a b=0
   ·have:=(fK a b).1 h2;subst this;simp[h2]
   ·have e:(bH a b==0)=false:=by simp[h2]
    simp only[h,decide_false,cond_false,e,qAg,adv a l x];constructor
    ·rintro(h | h | h)
     ·exact .inr (.inl h)
     ·exact .inl h
     ·exact .inr (.inr h)
    ·rintro(h | h | h)
     ·exact .inr (.inl h)
     ·exact .inl h
     ·exact .inr (.inr h)
theorem acI a:∀l,l.Pairwise kJ→(Ez a l).Pairwise kJ
 | [],_=>by simp[Ez]
 | b::l,h=>by
  have h1:=qBd.1 h;unfold Ez;by_cases hc:bH a b<0
  ·simp only[hc,decide_true,cond_true];refine qBd.2 ⟨fun x hx=>?_,h⟩;rcases qAg.1 hx with rfl | hx
   ·exact hc
   ·exact zN a b x hc (h1.1 x hx)
  ·by_cases h2:bH a b=0
   ·simp[h2];exact qBd.1 h
   ·have e:(bH a b==0)=false:=by simp[h2]
    simp only[hc,decide_false,cond_false,e];refine qBd.2 ⟨fun x hx=>?_,acI a l h1.2⟩;rcases(adv a l x).1 hx with rfl | hx
    ·show bH b x<0;rw[oW x b];omega
    ·exact h1.1 x hx
theorem dY:∀l x,x∈sortV l↔x∈l
 | [],x=>by simp[sortV]
 | a::l,x=>by rw[sortV,adv,dY l x];simp
theorem iN:∀l,(sortV l).Pairwise kJ
 | []=>by simp[sortV]
 | a::l=>acI a _ (iN l)
theorem Ef:∀(l m:List Val),l.Pairwise kJ→m.Pairwise kJ→(∀x,x∈l↔x∈m)→l=m
 | [],[],_,_,_=>rfl
 | [],b::m,_,_,h=>by have:=(h b).2 (by simp);cases this
 | a::l,[],_,_,h=>by have:=(h a).1 (by simp);cases this
 | a::l,b::m,hl,hm,h=>by
  have h1:=qBd.1 hl;have h2:=qBd.1 hm;have e:a=b:=by
   rcases qAg.1 ((h a).1 (by simp)) with e | ha
   ·exact e
   ·rcases qAg.1 ((h b).2 (by simp)) with e | hb
    ·exact e.symm
    ·exact absurd (h1.1 b hb) (ZY (h2.1 a ha))
  subst e;rw[Ef l m h1.2 h2.2 fun x=>?_];constructor
  ·intro hx;rcases qAg.1 ((h x).1 (by simp[hx])) with e | hx'
   ·exact absurd (e▸h1.1 x hx) (Cn a)
   ·exact hx'
  ·intro hx;rcases qAg.1 ((h x).2 (by simp[hx])) with e | hx'
   ·exact absurd (e▸h2.1 x hx) (Cn a)
   ·exact hx'
theorem AB{l m}(hm:m.Pairwise kJ)(h:∀x,x∈m↔x∈l):m=sortV l:=
 Ef _ _ hm (iN l) fun x=>by rw[h x,dY]
theorem lD l:(sortV l).length≤l.length:=by
 have key:∀(a:Val) (l:List Val),(Ez a l).length≤l.length+1:=fun a l=>by
  induction l with
  | nil=>simp[Ez]
  | cons b l ih=>
   unfold Ez;cases decide (bH a b<0)<;>cases(bH a b==0)<;>simp<;>omega
 induction l with
 | nil=>simp[sortV]
 | cons a l ih=>rw[sortV];have:=key a (sortV l);simp;omega
end
section
open Go
def Bb(_:Nat)p0:=app 56 ([]:List Val) p0
def jf(_:Nat)p0:=app 56 ([]:List Val) p0
def wN(_:Nat)p0:=app 24 ([]:List (List Val)) p0
def wF(_:Nat)(p0:List Val):=some p0
def jw(_:Nat)p0:=(app 56 [] p0).bind fun r=>some (sortV r)
def Dn(_:Nat)(k:Int):Option (List Val):=bif decide (0≤k)&&decide (k*56≤140737488355328) then some [] else none
def Af(n:Nat)p0(p1)(rec:((List Val)×Int)→Option (LR (List Val) (List Val)))(s1:(List Val)×Int):=cond (decide (s1.2<p1)) ((app 56 s1.1 [(Val.mk 3 s1.2 p0 ([]))]).bind fun(x1)=>rec (x1,(s1.2+1))) (some (.nx s1.1))
def ahQ n p0 p1 k:=aG (Af n p0 p1) k
def J4 n p0 p1:=(ahQ n p0 p1 n (([]),0)).bind (LR.el (fun(s2:List Val)=>some s2) fun r=>some r)
def aoq(n:Nat)p0(p1)(rec:Int→Option (LR Unit Int))s1:=cond (decide (s1<(p0.length:Int))) ((idx p0 s1).bind fun(x1:Str)=>cond (p1==x1) (some (.rt s1)) (rec (s1+1))) (some (.nx ()))
def acw n p0 p1 k:=aG (aoq n p0 p1) k
def NC n p0 p1:=(acw n p0 p1 n 0).bind (LR.el (fun(s2:Unit)=>some (-1)) fun r=>some r)
def Dz(n)p0(p2)p5(rec:Int→Option (LR Unit (PZ Val Unit)))s2:=cond (decide (s2<(p0.length:Int))) ((idx p0 s2).bind fun(x1:Carrier)=>(cond (x1.name==p5) ((idx p2 s2).bind fun(x2:Int)=>((J4 n x1.name x2).bind fun(x3:List Val)=>some (.rt (.ok (Val.mk 5 0 ([]:Str) x3))))) ((NC n x1.elems p5).bind fun(x4:Int)=>(cond (decide (0≤x4)) (some (.rt (.ok (Val.mk 3 x4 x1.name ([]))))) (rec (s2+1)))))) (some (.nx ()))
def U0 n p0 p2 p5 k:=aG (Dz n p0 p2 p5) k
def aa7(n:Nat)p0(p1:List Decl)p2(p3:List (Str×Val))(p4:List Bound)p5:=((ZK (dw p3 p5) (some (false,0,0,([]:Str),([]:List Val))) (fun(x5:Val)=>some (true,x5.kind,x5.n,x5.name,x5.kids))):Option (Bool×Int×Int×Str×(List Val))).bind fun(s1:Bool×Int×Int×Str×(List Val))=>cond s1.1 (some (.ok (Val.mk s1.2.1 s1.2.2.1 s1.2.2.2.1 s1.2.2.2.2))) ((U0 n p0 p2 p5 n 0).bind (LR.el (fun(s3:Unit)=>some (.er 6 ())) (fun r=>some r)))
def lZ(n:Nat)(cs:List Carrier)(ds:List Decl)(sizes:List Int)(m:List (Str×Val))(bound:List Bound)(name:Str):Option (PZ Val Unit):=
 match bound.reverse.find? fun b=>b.name==name with
 | some b=>some (.ok b.v)
 | none=>aa7 n cs ds sizes m bound name
end
end Abs
end Go.Proofs.YtneeginmfjageaaGreat
