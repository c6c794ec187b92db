/-
  The records of the types that walks ask for. Conditions: none.
-/
import Derived.Test.YthgdaonechbgmaaGreatProg
import Derived.KernelRfl
import Derived.Test.YthgdaonechbgmaaGreatCD2ox127687
set_option linter.all false
namespace Go.Proofs.YthgdaonechbgmaaGreat
namespace Abs
section
open Go Go.Proofs
def ti3:TI:=⟨some 1,some false,false,false,false,false,false,some .i64,.no,[],[],some ([.int .i64 0]),some (.int .i64 0),none,none,none⟩
def ti4:TI:=⟨some 1,some false,false,true,false,false,false,none,.no,[],[],some ([.bool false]),some (.bool false),none,none,none⟩
def ti5:TI:=⟨some 1,some false,false,false,false,false,false,some .u8,.no,[],[],some ([.int .u8 0]),some (.int .u8 0),none,none,none⟩
def ti9:TI:=⟨some 1,some false,false,false,true,false,false,none,.no,[],[],some ([.str []]),some (.str []),none,none,none⟩
def aLj:TI:=⟨some 1,some false,false,false,false,false,false,none,.no,[],[],some ([.unk]),some (.unk),none,none,none⟩
def aKp:TI:=⟨some 1,some false,false,false,false,false,true,none,.sl (some 2),[],[],some ([.slice [] .nils]),some (.slice [] .nils),some 2,some (64,2,40),none⟩
def aKJ:TI:=⟨some 1,some false,false,false,false,false,true,none,.sl (some 4),[],[],some ([.slice [] .nils]),some (.slice [] .nils),some 4,some (67,4,64),none⟩
def TIs(n:Nat)(s:Bool)(i:IxT)(f:List (Option (Nat×TypeId)))(p:List (Option (Nat×Nat)))(l:List AV):TI:=⟨some n,some true,false,false,false,s,false,none,i,f,p,some l,some (.agg l),none,none,none⟩
def TIc(a b c d:Bool)(k:Option IntKind)(i:IxT)(z:AV)(x:Option Nat)(y:Option (TypeId×Nat×Nat))(s:Option TypeId):TI:=⟨some 1,some false,a,b,c,false,d,k,i,[],[],some [z],some z,x,y,s⟩
def aK9:=TIs 2 true .no [some (0,22),some (1,23)] [some (0,1),some (1,1)] ([.slice [] .nils,.slice [] .nils])
def aLe:TI:=⟨some 1,some false,false,false,false,false,true,none,.sl (some 1),[],[],some ([.slice [] .nils]),some (.slice [] .nils),some 1,some (3,1,8),none⟩
def aKD:TI:=⟨some 1,some false,false,false,false,false,true,none,.sl (some 4),[],[],some ([.slice [] .nils]),some (.slice [] .nils),some 4,some (40,4,56),none⟩
def aKT:=TIs 4 true .no [some (0,25),some (2,26),some (3,27)] [some (0,2),some (2,1),some (3,1)] ([.slice [] .nils,.slice [] .nils,.slice [] .nils,.slice [] .nils])
def aLc:TI:=⟨some 1,some false,false,false,false,false,true,none,.sl (some 3),[],[],some ([.slice [] .nils]),some (.slice [] .nils),some 3,some (32,3,48),none⟩
def aLf:=TIs 3 true .no [some (0,3),some (1,9),some (2,30)] [some (0,1),some (1,1),some (2,1)] ([.int .i64 0,.str [],.slice [] .nils])
def aK7:TI:=⟨some 1,some false,false,false,false,false,true,none,.sl (some 7),[],[],some ([.slice [] .nils]),some (.slice [] .nils),some 7,some (35,7,104),none⟩
def aLy:=TIs 7 true .no [some (0,3),some (1,9),some (2,3),some (3,32),some (6,33)] [some (0,1),some (1,1),some (2,1),some (3,3),some (6,1)] ([.int .i64 0,.str [],.int .i64 0,.int .i64 0,.str [],.slice [] .nils,.slice [] .nils])
def aKw:=TIs 4 true .no [some (0,3),some (1,3),some (2,9),some (3,27)] [some (0,1),some (1,1),some (2,1),some (3,1)] ([.int .i64 0,.int .i64 0,.str [],.slice [] .nils])
def aLa:TI:=⟨some 1,some false,false,false,false,false,false,some .i64,.no,[],[],some ([.int .i64 0]),some (.int .i64 0),none,none,none⟩
def ti52:=TIs 2 true .no [some (0,9),some (1,26)] [some (0,1),some (1,1)] ([.str [],.slice [] .nils])
def ti62:TI:=⟨some 1,some false,false,false,false,false,true,none,.sl (some 1),[],[],some ([.slice [] .nils]),some (.slice [] .nils),some 1,some (9,1,16),none⟩
def ti64:=TIs 2 true .no [some (0,9),some (1,62)] [some (0,1),some (1,1)] ([.str [],.slice [] .nils])
def ti67:=TIs 4 true .no [some (0,9),some (1,32)] [some (0,1),some (1,3)] ([.str [],.int .i64 0,.str [],.slice [] .nils])
def ti73:TI:=⟨some 1,some false,true,false,false,false,false,none,.no,[],[],some ([.nilp]),some (.nilp),none,none,none⟩
def ti78:TI:=⟨some 1,some false,false,false,false,false,false,none,.no,[],[],some ([.nilFunc]),some (.nilFunc),none,none,none⟩
def ti83:TI:=⟨some 1,some false,false,false,false,false,true,none,.sl (some 1),[],[],some ([.slice [] .nils]),some (.slice [] .nils),some 1,some (4,1,1),none⟩
def aLv:=TIs 3 true .no [some (0,3),some (1,9),some (2,3)] [some (0,1),some (1,1),some (2,1)] ([.int .i64 0,.str [],.int .i64 0])
def aLu:=TIs 7 true .no [some (0,9),some (1,93),some (4,3),some (5,3),some (6,41)] [some (0,1),some (1,3),some (4,1),some (5,1),some (6,1)] ([.str [],.int .i64 0,.str [],.int .i64 0,.int .i64 0,.int .i64 0,.int .i64 0])
def aJk:=TIs 3 true .no [some (0,3),some (1,3),some (2,3)] [some (0,1),some (1,1),some (2,1)] ([.int .i64 0,.int .i64 0,.int .i64 0])
def ti103:TI:=⟨some 1,some false,true,false,false,false,false,none,.no,[],[],some ([.nilp]),some (.nilp),none,none,none⟩
def ti108:TI:=⟨some 1,some false,false,false,false,false,false,none,.no,[],[],some ([.unk]),some (.unk),none,none,some 32⟩
def aIx:TI:=⟨some 1,some false,false,false,false,false,false,none,.no,[],[],some ([.unk]),some (.unk),none,none,some 4⟩
def ti111:TI:=⟨some 1,some false,false,false,false,false,false,none,.no,[],[],some ([.nilFunc]),some (.nilFunc),none,none,none⟩
def aI4:=TIs 57 false (.arr 57 (some 1)) [] [] (List.replicate 57 (.nilFunc))
def aJz:=TIs 60 true .no [some (0,108),some (1,109),some (2,112),some (59,26)] [some (0,1),some (1,1),some (2,57),some (59,1)] (([.unk,.unk]++List.replicate 57 .nilFunc++[.slice [] .nils]))
def ti115:TI:=⟨some 1,some false,false,false,false,false,false,none,.no,[],[],some ([.unk]),some (.unk),none,none,some 40⟩
def aJd:TI:=⟨some 1,some false,false,false,false,false,true,none,.sl (some 5),[],[],some ([.slice [] .nils]),some (.slice [] .nils),some 5,some (211,5,72),none⟩
def aJi:=TIs 5 true .no [some (0,25),some (2,26),some (3,115),some (4,116)] [some (0,2),some (2,1),some (3,1),some (4,1)] ([.slice [] .nils,.slice [] .nils,.slice [] .nils,.unk,.slice [] .nils])
def ti143:TI:=⟨some 1,some false,true,false,false,false,false,none,.no,[],[],some ([.nilp]),some (.nilp),none,none,none⟩
def ti147:TI:=⟨some 1,some false,true,false,false,false,false,none,.no,[],[],some ([.nilp]),some (.nilp),none,none,none⟩
def ti149:TI:=⟨some 1,some false,false,false,false,false,false,none,.no,[],[],some ([.nilFunc]),some (.nilFunc),none,none,none⟩
def aIY:=TIs 5 true .no [some (0,9),some (1,32),some (4,147)] [some (0,1),some (1,3),some (4,1)] ([.str [],.int .i64 0,.str [],.slice [] .nils,.nilp])
def ti156:TI:=⟨some 1,some false,false,false,false,false,false,none,.no,[],[],some ([.nilFunc]),some (.nilFunc),none,none,none⟩
def aJD:=TIs 8 false (.arr 2 (some 4)) [] [] ([.int .i64 0,.int .i64 0,.str [],.slice [] .nils,.int .i64 0,.int .i64 0,.str [],.slice [] .nils])
def ti167:TI:=⟨some 1,some false,false,false,false,false,false,none,.no,[],[],some ([.nilFunc]),some (.nilFunc),none,none,none⟩
def ti173:TI:=⟨some 1,some false,false,false,false,false,false,some .u64,.no,[],[],some ([.int .u64 0]),some (.int .u64 0),none,none,none⟩
def ti203:TI:=⟨some 1,some false,false,false,false,false,false,none,.no,[],[],some ([.nilFunc]),some (.nilFunc),none,none,none⟩
def ti211:=TIs 5 true .no [some (0,9),some (1,40)] [some (0,1),some (1,4)] ([.str [],.int .i64 0,.int .i64 0,.str [],.slice [] .nils])
def aJG:TI:=⟨some 1,some false,false,false,false,false,false,some .i64,.no,[],[],some ([.int .i64 0]),some (.int .i64 0),none,none,none⟩
def ti229:TI:=⟨some 1,some false,false,false,false,false,false,some .u32,.no,[],[],some ([.int .u32 0]),some (.int .u32 0),none,none,none⟩
def ti231:TI:=⟨some 1,some false,false,false,false,false,false,some .u64,.no,[],[],some ([.int .u64 0]),some (.int .u64 0),none,none,none⟩
def ti241:TI:=⟨some 1,some false,false,false,false,false,true,none,.sl (some 1),[],[],some ([.slice [] .nils]),some (.slice [] .nils),some 1,some (27,1,24),none⟩
def ti244:TI:=⟨some 1,some false,false,false,false,false,false,some .u64,.no,[],[],some ([.int .u64 0]),some (.int .u64 0),none,none,none⟩
def ti258:TI:=⟨some 1,some false,false,false,false,false,false,none,.no,[],[],some ([.nilFunc]),some (.nilFunc),none,none,none⟩
def tab:Tr:=(.node (.node (.node (.node (.node (.node .nil 3 ti3 .nil) 4 ti4 (.node .nil 5 ti5 .nil)) 9 ti9 (.node (.node .nil 20 aLj .nil) 22 aKp .nil)) 23 aKJ (.node (.node (.node .nil 25 aK9 .nil) 26 aLe (.node .nil 27 aKD .nil)) 29 aKT (.node (.node .nil 30 aLc .nil) 32 aLf .nil))) 33 aK7 (.node (.node (.node (.node .nil 35 aLy .nil) 40 aKw (.node .nil 41 aLa .nil)) 52 ti52 (.node (.node .nil 62 ti62 .nil) 64 ti64 .nil)) 67 ti67 (.node (.node (.node .nil 73 ti73 .nil) 78 ti78 .nil) 83 ti83 (.node (.node .nil 93 aLv .nil) 96 aLu .nil)))) 101 aJk (.node (.node (.node (.node (.node .nil 103 ti103 .nil) 108 ti108 (.node .nil 109 aIx .nil)) 111 ti111 (.node (.node .nil 112 aI4 .nil) 114 aJz .nil)) 115 ti115 (.node (.node (.node .nil 116 aJd .nil) 118 aJi .nil) 143 ti143 (.node (.node .nil 147 ti147 .nil) 149 ti149 .nil))) 151 aIY (.node (.node (.node (.node .nil 156 ti156 .nil) 159 aJD (.node .nil 167 ti167 .nil)) 173 ti173 (.node (.node .nil 203 ti203 .nil) 211 ti211 .nil)) 222 aJG (.node (.node (.node .nil 229 ti229 .nil) 231 ti231 .nil) 241 ti241 (.node (.node .nil 244 ti244 .nil) 258 ti258 .nil)))))
theorem aHe:tab.keys.map (TI.of Tryz.prog)=tab.vals:=by kernel_rfl
noncomputable def τ(t:Nat):TI:=tab.look (TI.of Tryz.prog) t
theorem yJ:τ=TI.of Tryz.prog:=aGW aHe
end
section
open Go
def Gl(u:U):List AV:=AB (.lf u.t u.x) (kr u.t u.x)
def Ju:List U→List AV
 |[]=>[]
 |u::us=>Gl u++Ju us
theorem amO(H:List TObj):∀us:List U,bq H (us.map fun u=>.lf u.t u.x)=Ju us
 |[]=>rfl
 |u::us=>by simp only[qAy,bq,Ju,amO H us,Gl,av]
theorem LW:∀(e:ET) (x:e.D),(e.enc x).length=e.sz
 | .i,_=>rfl| .u,_=>rfl| .s,_=>rfl| .b,_=>rfl| .car,_=>rfl| .dec,_=>rfl
 | .ty,x=>by simp only[ET.enc,lU];rfl
 | .tm,x=>by simp only[ET.enc,uU];rfl
 | .env,_=>rfl
 | .val,x=>by simp only[ET.enc,iC];rfl
 | .bnd,x=>by have:=iC x.v;simp only[ET.enc,this];rfl
 | .vals,_=>rfl| .tms,_=>rfl
theorem az4:∀(e:ET) (x:e.D),Ju (fF e.cs (e.un x))=e.enc x
 | .i,_=>rfl| .u,_=>rfl| .s,_=>rfl| .b,_=>rfl| .car,_=>rfl
 | .dec,x=>by
  have:=lU x.ty;simp only[ET.enc,ET.cs,ET.un,fF,Ju,Gl,AB,kr,ji,this,qAM,qAo]
 | .ty,x=>by simp only[ET.enc,lU];rfl
 | .tm,x=>by
  have:=lU x.ty;simp only[ET.enc,ET.cs,ET.un,fF,Ju,Gl,AB,kr,uU,this,qAM,qAo]
 | .env,_=>rfl
 | .val,x=>by simp only[ET.enc,iC];rfl
 | .bnd,x=>by
  have:=iC x.v;simp only[ET.enc,ET.cs,ET.un,fF,Ju,Gl,AB,kr,this,qAM,qAo]
 | .vals,_=>rfl| .tms,_=>rfl
theorem aJv:∀(e:ET) (y:jI e.cs),e.un (e.mk y)=y
 | .i,_=>rfl| .u,_=>rfl| .s,_=>rfl| .b,_=>rfl| .car,_=>rfl| .dec,_=>rfl| .ty,_=>rfl| .tm,_=>rfl| .env,_=>rfl| .val,_=>rfl| .bnd,_=>rfl| .vals,_=>rfl| .tms,_=>rfl
theorem aHP(e:ET)(y:jI e.cs):Ju (fF e.cs y)=e.enc (e.mk y):=by rw[←az4,aJv]
theorem Iw(H:List TObj):∀a b:List TV,bq H (a++b)=bq H a++bq H b
 |[],_=>rfl
 |v::a,b=>by simp only[qAM,bq,Iw H a b,qAm]
theorem uM(H:List TObj):∀a:List TV,aU H a=a.map (av H)
 |[]=>rfl
 |v::a=>by simp only[aU,qAy,uM H a]
theorem XT(H:List TObj)(e:ET)(x:e.D):bq H (comps e x)=e.enc x:=by
 unfold comps;rw[amO,az4]
def one(v:TV):Prop:=∀a,AB v a=[a]
theorem tC(v:TV):one v∨∃e x,v=.lf (.t e) x:=by
 cases v with
 |lf t x=>cases t<;>first|exact .inr ⟨_,_,rfl⟩|exact .inl fun _=>rfl
 |_=>exact .inl fun _=>rfl
theorem anc(H:List TObj)(v:TV):(AB v (av H v)).length=width v:=by
 rcases tC v with h|⟨e,x,rfl⟩
 ·rw[h];cases v with
  |lf t x=>cases t<;>first|rfl|(have:=h .unk;simp only[AB]at this;rename_i e;have h2:=LW e x;rw[this]at h2;simp only[width];exact h2)
  |_=>rfl
 ·exact LW e x
theorem l7(H:List TObj):∀vs:List TV,(bq H vs).length=widths vs
 |[]=>rfl
 |v::vs=>by simp only[bq,qAe,anc,l7 H vs,widths]
theorem bD{γ:Type}{b:Bool}{X Y:Option γ}{r:γ}(h:cond b X Y=some r):(b=true∧X=some r)∨(b=false∧Y=some r):=by grind
section
variable {γ:Type}{b:γ}{H:List TObj}
theorem zH:∀(f:Nat) (cs:List TV) (n:Nat) (K:List TV→List TV→Option γ),splitK f cs n K=some b→∃a r,bq H cs=bq H a++bq H r∧(bq H a).length=n∧K a r=some b:=by
 intro f
 induction f with
 |zero=>intro cs n K h;cases h
 |succ f ih=>
  intro cs n K h;unfold splitK at h;cases n with
  |zero=>exact⟨[],cs,rfl,rfl,h⟩
  |succ m=>
   cases cs with
   |nil=>cases h
   |cons c r=>
    rcases bD h with⟨hw,h⟩|⟨_,h⟩
    ·obtain⟨a,r',h1,h2,h3⟩:=ih _ _ _ h;have hw:=qAf hw;refine⟨c::a,r',?_,?_,h3⟩
     ·simp only[bq,h1,qAm]
     ·simp only[bq,qAe,anc];omega
    ·split at h
     ·rename_i e x;obtain⟨a,r',h1,h2,h3⟩:=ih _ _ _ h;refine⟨a,r',?_,h2,h3⟩;rw[←h1,Iw,XT];rfl
     ·cases h
theorem aBe:∀(f:Nat) (cs:List TV) (K:TV→Option γ),apu f cs K=some b→∃v r,one v∧bq H cs=av H v::r∧K v=some b:=by
 intro f
 induction f with
 |zero=>intro cs K h;cases h
 |succ f ih=>
  intro cs K h;unfold apu at h;cases cs with
  |nil=>cases h
  |cons c r=>
   simp only at h;split at h
   ·rename_i e x;obtain⟨v,r',h1,h2,h3⟩:=ih _ _ h;refine⟨v,r'++bq H r,h1,?_,h3⟩;rw[XT]at h2;simp only[bq,AB,h2,qAM]
   ·rename_i hne;rcases tC c with h1|⟨e,x,rfl⟩
    ·exact⟨c,bq H r,h1,by simp only[bq,h1 (av H c),qAM,qAo],h⟩
    grind
theorem alX(c:List TV):av H (ady c)=.agg (bq H c):=by
 unfold ady;split
 ·rename_i e x;simp only[av,kr,bq,AB,qAt]
 ·rfl
theorem abC{P:Program}{t off:Nat}{cs:List TV}{K:TV→Option γ}(h:ldK (TI.of P) t off cs K=some b):∃v,kC P t ((bq H cs).drop off)=some (av H v)∧K v=some b:=by
 unfold ldK at h;split at h
 ·rename_i hagg;have hagg:QN P t=some true:=hagg;split at h
  ·rename_i n hn;have hn:sizeT P t=some n:=hn;obtain⟨a,r,h1,h2,h3⟩:=zH (H:=H) _ _ _ _ h;obtain⟨c,d,h4,h5,h6⟩:=zH (H:=H) _ _ _ _ h3;refine⟨ady c,?_,h6⟩;have e1:(bq H cs).drop off=bq H c++bq H d:=by rw[h1,←h2,qCU,h4]
   simp only[kC,e1,qAe,h5,alX]
   grind
  ·cases h
 ·rename_i hagg;have hagg:QN P t=some false:=hagg;obtain⟨a,r,h1,h2,h3⟩:=zH (H:=H) _ _ _ _ h;obtain⟨v,r',_,h4,h5⟩:=aBe (H:=H) _ _ _ h3;refine⟨v,?_,h5⟩;have e1:(bq H cs).drop off=bq H r:=by rw[h1,←h2,qCU]
  simp only[kC,hagg,e1,h4]
 ·cases h
theorem IV{v:TV}{cs:List TV}(h:F9 H v=some cs):eO (av H v)=some (bq H cs):=by
 cases v with
 |lf t x=>cases t<;>first|(cases h;rfl)|(cases h;simp only[av,kr,eO,bq,AB,qAt])|cases h
 |agg c=>cases h;rfl
 |unk=>cases h
 |tup c=>cases h
 |nat n=>cases h;rfl
 |own l=>
  simp only[F9]at h;split at h
  ·rename_i hl;cases h;simp only[av,hl,gD,bq,AB,eO,qAt]
  ·rename_i hl;cases h;simp only[av,hl,gD,bq,AB,eO,qAt]
  ·cases h
 |psl l z c=>
  cases c with
  |some n=>cases h;rfl
  |none=>
   simp only[F9]at h;split at h
   ·rename_i hl;cases h;simp only[av,hl,eY,bq,AB,eO,qAt]
   ·rename_i hl;cases h;simp only[av,hl,eY,bq,AB,eO,qAt]
   ·cases h
 |_=>cases h;rfl
inductive Cv:Bool→AV→AV→Prop where
 |same (w:Bool) (a:AV):Cv w a a
 |share (es:List (List AV)) (t:Tag):Cv true (.slice es .shared) (.slice es t)
 |nilF:Cv true (.flist []) .nilp
inductive Cvs(w:Bool):List AV→List AV→Prop where
 |nil:Cvs w [] []
 |cons {x y:AV} {xs ys:List AV}:Cv w x y→Cvs w xs ys→Cvs w (x::xs) (y::ys)
theorem Cvs.refl(w:Bool):∀xs,Cvs w xs xs
 |[]=>.nil
 |x::xs=>.cons (.same w x) (Cvs.refl w xs)
theorem Cvs.app{w:Bool}{a b c d:List AV}(h:Cvs w a c)(k:Cvs w b d):Cvs w (a++b) (c++d):=by
 induction h with
 |nil=>exact k
 |cons h _ ih=>exact .cons h ih
theorem Cvs.len{w:Bool}{a c:List AV}(h:Cvs w a c):a.length=c.length:=by
 induction h with
 |nil=>rfl
 |cons _ _ ih=>simp[ih]
theorem kS{t:LT}{u:U}{K:t.D→Option γ}(h:kZ t u K=some b):∃x,u=⟨t,x⟩∧K x=some b:=by
 unfold kZ at h;split at h
 ·rename_i e _;obtain⟨t',x⟩:=u
  grind
 ·cases h
theorem Q8:∀{ts:List LT} {us:List U} {K:jI ts→Option γ},AJ ts us K=some b→∃y,fF ts y=us∧K y=some b
 |[],us,K,h=>by
  unfold AJ at h;split at h
  ·exact⟨(),rfl,h⟩
  ·cases h
 |[t],us,K,h=>by
  unfold AJ at h;split at h
  ·obtain⟨x,rfl,h2⟩:=kS h;exact⟨x,rfl,h2⟩
  ·cases h
 |t::t'::ts,us,K,h=>by
  unfold AJ at h;split at h
  ·obtain⟨x,rfl,h2⟩:=kS h;obtain⟨y,hy,h3⟩:=Q8 h2;exact⟨(x,y),by simp only[fF,hy],h3⟩
  ·cases h
theorem ahu{w:Bool}{t:LT}{v:TV}{K:U→Option γ}(hv:one v)(h:vH H w t v K=some b):∃u,K u=some b∧Cv w (kr u.t u.x) (av H v)∧Gl u=[kr u.t u.x]:=by
 unfold vH at h;split at h
 ·rename_i t' x;exact⟨⟨t',x⟩,h,.same _ _,hv _⟩
 ·rename_i n;exact⟨_,h,.same _ _,rfl⟩
 ·cases w
  ·cases h
  ·simp only[cond_true]at h;split at h
   ·exact⟨_,h,.share [] .nils,rfl⟩
   ·cases h
 ·cases w
  ·cases h
  ·simp only[cond_true]at h;split at h
   ·exact⟨_,h,.nilF,rfl⟩
   ·cases h
 ·rename_i l;cases w
  ·cases h
  ·simp only[cond_true]at h;split at h
   ·rename_i e xs hl;exact⟨_,h,by simp only[av,hl];exact .share _ _,rfl⟩
   ·rename_i e xs hl;exact⟨_,h,by simp only[av,hl];exact .share _ _,rfl⟩
   ·cases h
 ·cases h
theorem as7{w:Bool}{L:LT→List TV→(U→List TV→Option γ)→Option γ}
  (hL:∀t cs K,L t cs K=some b→∃u r xs,K u r=some b∧bq H cs=xs++bq H r∧Cvs w (Gl u) xs):
  ∀(ts:List LT) (cs:List TV) (K:List U→List TV→Option γ),aii L ts cs K=some b→∃us r xs,K us r=some b∧bq H cs=xs++bq H r∧Cvs w (Ju us) xs
 |[],cs,K,h=>⟨[],cs,[],h,rfl,.nil⟩
 |t::ts,cs,K,h=>by
  obtain⟨u,r,xs,h1,h2,h3⟩:=hL _ _ _ h;obtain⟨us,r',ys,h4,h5,h6⟩:=as7 hL ts r _ h1;exact⟨u::us,r',xs++ys,h4,by rw[h2,h5,qAm],h3.app h6⟩
theorem Xx{w:Bool}:∀(f:Nat) (t:LT) (cs:List TV) (K:U→List TV→Option γ),TF H w f t cs K=some b→∃u r xs,K u r=some b∧bq H cs=xs++bq H r∧Cvs w (Gl u) xs:=by
 intro f
 induction f with
 |zero=>intro t cs K h;cases h
 |succ f ih=>
  intro t cs K h;have pk:∀(e:ET),(aii (TF H w f) e.cs cs fun us r=>AJ e.cs us fun y=>K ⟨.t e,e.mk y⟩ r)=some b→∃u r xs,K u r=some b∧bq H cs=xs++bq H r∧Cvs w (Gl u) xs:=fun e h=>by
   obtain⟨us,r,xs,h1,h2,h3⟩:=as7 ih _ _ _ h;obtain⟨y,rfl,h4⟩:=Q8 h1;refine⟨_,r,xs,h4,h2,?_⟩;rw[aHP]at h3;exact h3
  unfold TF at h;cases cs with
  |nil=>cases h
  |cons c r=>
   simp only at h;split at h
   ·rename_i e' x;have ex:∀t,TF H w f t (comps e' x++r) K=some b→∃u r_1 xs,K u r_1=some b∧bq H (.lf (.t e') x::r)=xs++bq H r_1∧Cvs w (Gl u) xs:=fun t h=>by
     obtain⟨u,r',xs,h1,h2,h3⟩:=ih _ _ _ h;refine⟨u,r',xs,h1,?_,h3⟩;rw[Iw,XT]at h2;simp only[bq];exact h2
    split at h
    ·exact⟨_,r,e'.enc x,h,by simp only[bq,AB],Cvs.refl _ _⟩
    grind
   ·rename_i hne;split at h
    ·grind
    ·rcases tC c with h1|⟨e,x,rfl⟩
     ·obtain⟨u,h2,h3,h4⟩:=ahu h1 h;exact⟨u,r,[av H c],h2,by simp only[bq,h1 (av H c)],by rw[h4];exact .cons h3 .nil⟩
     grind
theorem aDE{t:LT}{v:TV}{K:t.D→Option γ}(ht:∀e,t≠ .t e)(h:(vH H true t v fun u=>kZ t u K)=some b):∃x,K x=some b∧one v∧Cv true (kr t x) (av H v):=by
 rcases tC v with h1|⟨e,x,rfl⟩
 ·obtain⟨u,h2,h3,_⟩:=ahu h1 h;obtain⟨x,rfl,h4⟩:=kS h2
  grind
 ·simp only[vH]at h;obtain⟨y,h5,_⟩:=kS h
  grind
theorem CW{e:ET}{v:TV}{K:e.D→Option γ}(hsc:e.sc=false)(h:JE H e v K=some b):∃x xs,K x=some b∧eO (av H v)=some xs∧Cvs true (e.enc x) xs∧(e.sc=true→xs=[av H v]):=by
 unfold JE at h;split at h
 ·rename_i cs hc;obtain⟨u,r,xs,h1,h2,h3⟩:=Xx _ _ _ _ h;split at h1
  ·obtain⟨x,rfl,h4⟩:=kS h1;refine⟨x,xs,h4,?_,h3,fun hs=>by rw[hsc]at hs;cases hs⟩;rw[IV hc,h2];simp only[bq,qAt]
  ·cases h1
 ·cases h
theorem amd{t:LT}{v:TV}{K:t.D→Option γ}{e:ET}{c:t.D→e.D}(ht:∀e,t≠ .t e)(he:∀x,e.enc (c x)=[kr t x])(h2:∀x y,Cv true (kr t x) y→eO y=some [y])(h:(vH H true t v fun u=>kZ t u K)=some b):
  ∃x xs,K x=some b∧eO (av H v)=some xs∧Cvs true (e.enc (c x)) xs∧(e.sc=true→xs=[av H v]):=by
 obtain⟨x,h1,_,h3⟩:=aDE ht h;exact⟨x,[av H v],h1,h2 x _ h3,by rw[he];exact .cons h3 .nil,fun _=>rfl⟩
theorem anV{e:ET}{v:TV}{K:e.D→Option γ}(h:apq H e v K=some b):∃x xs,K x=some b∧eO (av H v)=some xs∧Cvs true (e.enc x) xs∧(e.sc=true→xs=[av H v]):=by
 cases e with
 |i=>exact amd (e:=.i) (c:=fun x=>x) (fun e h=>by cases h) (fun _=>rfl) (fun x y h=>by cases h;rfl) h
 |u=>exact amd (e:=.u) (c:=fun x=>x) (fun e h=>by cases h) (fun _=>rfl) (fun x y h=>by cases h;rfl) h
 |s=>exact amd (e:=.s) (c:=fun x=>x) (fun e h=>by cases h) (fun _=>rfl) (fun x y h=>by cases h;rfl) h
 |b=>exact amd (e:=.b) (c:=fun x=>x) (fun e h=>by cases h) (fun _=>rfl) (fun x y h=>by cases h;rfl) h
 |car=>exact CW rfl h
 |dec=>exact CW rfl h
 |ty=>exact CW rfl h
 |tm=>exact CW rfl h
 |env=>exact CW rfl h
 |val=>exact CW rfl h
 |bnd=>exact CW rfl h
 |vals=>exact amd (e:=.vals) (c:=fun x=>x) (fun e h=>by cases h) (fun _=>rfl) (fun x y h=>by cases h<;>rfl) h
 |tms=>exact amd (e:=.tms) (c:=fun x=>x) (fun e h=>by cases h) (fun _=>rfl) (fun x y h=>by cases h<;>rfl) h
theorem aCy{e:ET}{v:TV}{K:e.D→Option γ}(h:apq H e v K=some b):∃x xs,K x=some b∧eO (av H v)=some xs∧Cvs true (e.enc x) xs:=by
 obtain⟨x,xs,h1,h2,h3,_⟩:=anV h
 grind
theorem aEC:∀(e:ET) (x:e.D),(e.enc x).map shr=e.enc x
 | .i,_=>rfl| .u,_=>rfl| .s,_=>rfl| .b,_=>rfl| .car,_=>rfl
 | .dec,x=>rfl
 | .ty,x=>by simp only[ET.enc,lU];rfl
 | .tm,x=>by simp only[ET.enc,uU];rfl
 | .env,_=>rfl
 | .val,x=>by simp only[ET.enc,iC];rfl
 | .bnd,x=>by have:=iC x.v;simp only[ET.enc,this];rfl
 | .vals,_=>rfl| .tms,_=>rfl
theorem aCj:∀(e:ET) (x:e.D),AV.flist []∉e.enc x
 | .i,_=>by simp[ET.enc,encI]| .u,_=>by simp[ET.enc,MZ]| .s,_=>by simp[ET.enc,encS]| .b,_=>by simp[ET.enc]| .car,_=>by simp[ET.enc,kU]
 | .dec,x=>by simp[ET.enc,ji]
 | .ty,x=>by simp[ET.enc,lU]
 | .tm,x=>by simp[ET.enc,uU]
 | .env,_=>by simp[ET.enc]
 | .val,x=>by simp[ET.enc,iC]
 | .bnd,x=>by simp[ET.enc,iC]
 | .vals,x=>by simp[ET.enc]
 | .tms,x=>by simp[ET.enc]
theorem aFL{asz xs:List AV}(h:Cvs true asz xs)(h1:asz.map shr=asz)(h2:AV.flist []∉asz):xs.map shr=asz:=by
 induction h with
 |nil=>rfl
 |cons h _ ih=>
  simp only[qAy,List.cons.injEq,qAh,not_or]at h1 h2⊢;refine⟨?_,ih h1.2 h2.2⟩;cases h with
  |same=>exact h1.1
  |share=>rfl
  |nilF=>exact(h2.1 rfl).elim
theorem arb{e:ET}{x:e.D}{xs:List AV}(h:Cvs true (e.enc x) xs):xs.map shr=e.enc x:=aFL h (aEC e x) (aCj e x)
theorem NS:∀(e:ET) (x:e.D),dH e.sz (e.enc x)=true
 | .i,_=>rfl| .u,_=>rfl| .s,_=>rfl| .b,_=>rfl| .car,_=>rfl| .dec,_=>rfl
 | .ty,x=>by simp only[ET.enc,lU];rfl
 | .tm,x=>by simp only[ET.enc,uU];rfl
 | .env,_=>rfl
 | .val,x=>by simp only[ET.enc,iC];rfl
 | .bnd,x=>by have:=iC x.v;simp only[ET.enc,this];rfl
 | .vals,_=>rfl| .tms,_=>rfl
theorem amh:∀(H:List TObj) (e:ET) (x:e.D),bq H [e.seg x]=e.enc x
 |_,.i,_=>rfl|_,.u,_=>rfl|_,.s,_=>rfl|_,.b,_=>rfl|_,.car,_=>rfl|_,.dec,_=>rfl|_,.ty,_=>by simp[bq,ET.seg,AB]|_,.tm,_=>by simp[bq,ET.seg,AB]|_,.env,_=>rfl|_,.val,_=>by simp[bq,ET.seg,AB]
 |_,.bnd,_=>by simp[bq,ET.seg,AB]|_,.vals,_=>rfl|_,.tms,_=>rfl
theorem apM:∀(H:List TObj) (e:ET) (x:e.D),av H (e.seg x)=e.one x
 |_,.i,_=>rfl|_,.u,_=>rfl|_,.s,_=>rfl|_,.b,_=>rfl|_,.car,_=>rfl|_,.dec,_=>rfl|_,.ty,_=>rfl|_,.tm,_=>rfl|_,.env,_=>rfl|_,.val,_=>rfl|_,.bnd,_=>rfl|_,.vals,_=>rfl|_,.tms,_=>rfl
theorem ac2:∀(e:ET) (g:Nat→Nat) (x:e.D),eT g (e.enc x)=e.enc x
 | .i,_,_=>rfl| .u,_,_=>rfl| .s,_,_=>rfl| .b,_,_=>rfl
 | .car,g,x=>aql g x| .dec,g,x=>azP g x| .ty,g,x=>anf g x| .tm,g,x=>amQ g x
 | .env,g,x=>by simp only[ET.enc,eT,ren,xu,asr,azE]
 | .val,g,x=>PX g x
 | .bnd,g,x=>by simp only[ET.enc,eT,ren,PX g x.v]
 | .vals,g,x=>by simp only[ET.enc,eT,ren,xu,apW]
 | .tms,g,x=>by simp only[ET.enc,eT,ren,xu,aEP]
theorem nV(e:ET)(g:Nat→Nat)(l:List e.D):gY g (l.map e.enc)=l.map e.enc:=Qs (fun g x=>ac2 e g x) g l
theorem Lb(g:Nat→Nat):∀(t:LT) (x:t.D),ren g (kr t x)=kr t x
 | .n _,_=>rfl| .b,_=>rfl| .s,_=>rfl| .m _,_=>rfl
 | .l e,x=>by simp only[kr,ren,xu,nV]
 | .t e,x=>by simp only[kr,ren,ac2]
 | .f e,x=>by simp only[kr,ren,nV]
end
end
section
open Go
noncomputable section
def aB(H:List TObj):List AObj:=H.map (gV H)
theorem kV(H:List TObj)(l:Nat):obj? (aB H) l=gV H (nth .dead H l):=by
 rw[jF];unfold obj? aB;rw[qAE,List.getD];cases H[l]?<;>rfl
theorem avJ(H:List TObj)(v:Value):av H (amk v)=KH v∧one (amk v):=by
 unfold amk KH;split
 ·rename_i k n;dsimp only;by_cases h:k.min≤n∧n≤k.max
  ·rw[if_pos h,decide_eq_true h.1,decide_eq_true h.2];exact⟨rfl,fun _=>rfl⟩
  ·rw[if_neg h];have:(decide (k.min≤n)&&decide (n≤k.max))=false:=by
    grind
   rw[this];exact⟨rfl,fun _=>rfl⟩
 ·exact⟨rfl,fun _=>rfl⟩
 ·rename_i s;dsimp only;by_cases h:s.data.toList.length≤9223372036854775807
  ·rw[if_pos h,decide_eq_true h];exact⟨rfl,fun _=>rfl⟩
  ·rw[if_neg h,decide_eq_false h];exact⟨rfl,fun _=>rfl⟩
 ·exact⟨rfl,fun _=>rfl⟩
 ·exact⟨rfl,fun _=>rfl⟩
 ·exact⟨rfl,fun _=>rfl⟩
 ·rename_i h1 h2 h3 h4 h5 h6;split<;>first|exact⟨rfl,fun _=>rfl⟩|(rename_i h;first|exact(h1 _ _ rfl).elim|exact(h2 _ rfl).elim|exact(h3 _ rfl).elim|exact(h4 rfl).elim|exact(h5 rfl).elim|exact(h6 rfl).elim)
theorem ard(H:List TObj){α:Type}(f:α→TV)(g:α→AV)(h:∀a,av H (f a)=g a∧one (f a)):∀l:List α,bq H (l.map f)=l.map g
 |[]=>rfl
 |a::l=>by simp only[qAy,bq,(h a).2 _,(h a).1,ard H f g h l,qAM,qAo]
theorem aEe(H:List TObj)(v:Value):av H (aB8 v)=ofConst v:=by
 unfold aB8 ofConst;split
 ·simp only[av,ard H amk KH (avJ H)]
 ·rename_i h;split
  ·grind
  ·exact(avJ H v).1
theorem bZ(H:List TObj)(t:List TV)(x:Operand):bL (aU H t) x=av H (gq t x):=by
 cases x with
 |tmp n=>
  simp only[bL,gq,jF,uM,List.getD,qAE];cases t[n]?<;>rfl
 |const v=>exact(aEe H v).symm
 |func f=>rfl
 |global g=>rfl
def wrH(H:List TObj):TWr→List TObj
 | .sl _ _=>H
 | .ob l o=>H.set l o
 | .st l off vs=>match nth .dead H l with
  | .box cs=>match vS cs off vs some with
   |some cs=>H.set l (.box cs)
   |none=>H
  |_=>H
 | .kill l=>match nth .dead H l with
  | .own e xs=>H.set l (.gone e xs)
  | .arr _ xs=>H.set l (.gon xs.length)
  | .box _=>H.set l .dead
  | .mp _ _=>H.set l .dead
  |_=>H
 | .nw l o=>H.set l o
 | .up l i e y=>match nth .dead H l with
  | .arr e' xs=>match ET.eq? e e' with
   |some ⟨q⟩=>H.set l (.arr e' (upd xs i (q▸y)))
   |none=>H
  |_=>H
def GU(H:List TObj):TWr→Wr
 | .sl n v=>.slot n (av H v)
 | .ob l o=>.obj l (gV (H.set l o) o)
 | .st l off vs=>.obj l (match gV H (nth .dead H l)with| .box cs=>.box (cs.take off++bq H vs++cs.drop (off+(bq H vs).length))|o=>o)
 | .kill l=>.obj l .dead
 | .nw l o=>.obj l (gV (H.set l o) o)
 | .up l i e y=>.obj l (match nth .dead H l with
  | .arr e' xs=>match ET.eq? e e' with
   |some ⟨q⟩=>.arr e'.sz ((upd xs i (q▸y)).map e'.enc)
   |none=>.dead
  |_=>.dead)
def Cj(H:List TObj):List TWr→List Wr
 |[]=>[]
 |w::ws=>GU H w::Cj (wrH H w) ws
theorem jW(H:List TObj)(d:Option Tmp)(v:TV):Cj H (fP d v)=aA d (av H v):=by cases d<;>rfl
def oQ:TV→Option (IntKind×Int)
 | .lf (.n k) x=>some (k,x)
 | .nat n=>some (.i64,n)
 |_=>none
theorem as0{H:List TObj}{v:TV}{k:IntKind}{a:Int}(h:av H v=.int k a):oQ v=some (k,a):=by
 cases v with
 |lf t x=>cases t<;>simp only[av]at h<;>first|(cases h;rfl)|cases h
 |nat n=>cases h;rfl
 |own l=>simp only[av]at h;unfold gD at h;split at h<;>cases h
 |psl l z c=>
  cases c with
  |none=>simp only[av]at h;unfold eY at h;split at h<;>cases h
  |some n=>cases h
 |_=>cases h
theorem aAA{H:List TObj}{v:TV}{k:IntKind}{a:Int}(h:oQ v=some (k,a)):av H v=.int k a:=by
 unfold oQ at h;split at h
 ·cases h;rfl
 ·cases h;rfl
 ·cases h
def Kup(t:List TV)(up:List Nat):Prop:=∀i k a,mem up i=true→oQ (nth .unk t i)=some (k,a)→k.wrap (a+1)=a+1
def Krl(t:List TV)(rl:List (Nat×Nat×Nat)):Prop:=∀d i j,(d,i,j)∈rl→∀k a,oQ (nth .unk t i)=some (k,a)→∃c,oQ (nth .unk t j)=some (k,c)∧∀b,nth .unk t d=.lf .b b→b=decide (a<c)
section
variable {P:Program}{γ:Type}{b:γ}{H:List TObj}{t:List TV}{θ:Nat→Option ET}{up:List Nat}{k:Nat}{o:Oper}{K:List Nat→List TWr→Option γ}
def aqo(t:List TV)(o:Oper)(ws:List TWr):Prop:=∀d i j tt g,o.op=.binOp .lss tt (.tmp i) (.tmp j) g→o.dst=some d→
 ∃v,ws=[.sl d v]∧∀k a,oQ (nth .unk t i)=some (k,a)→∃c,oQ (nth .unk t j)=some (k,c)∧∀b,v=.lf .b b→b=decide (a<c)
def rX(P:Program)(H:List TObj)(t:List TV)(k:Nat)(o:Oper)(K:List Nat→List TWr→Option γ)(b:γ):Prop:=
 ∃rd ws ws',aP P k o (bL (aU H t)) (obj? (aB H))=some (rd,ws')∧((∀x∈o.op.operands,VF (bL (aU H t) x))→ws'=Cj H ws)∧aqo t o ws∧K rd ws=some b
theorem aGb{v:TV}{a:AV}(h:aC P o.op (bL (aU H t))=some a)(hv:(∀x∈o.op.operands,VF (bL (aU H t) x))→a=av H v)(hr:aqo t o (fP o.dst v))(hK:K [] (fP o.dst v)=some b):rX P H t k o K b:=
 ⟨[],fP o.dst v,aA o.dst a,by simp only[aP,h],fun hx=>by rw[hv hx,jW],hr,hK⟩
def aq0:Op→Bool
 | .binOp _ _ _ _ _=>false
 |_=>true
theorem amr(h:aq0 o.op=true)(ws:List TWr):aqo t o ws:=fun _ _ _ _ _ e=>by rw[e]at h;cases h
theorem Hq{rd:List Nat}{ws:List TWr}(h:aP P k o (bL (aU H t)) (obj? (aB H))=some (rd,Cj H ws))(hK:K rd ws=some b)(hn:aq0 o.op=true:=by rfl):rX P H t k o K b:=
 ⟨rd,ws,_,h,fun _=>rfl,amr hn ws,hK⟩
theorem nC{v:TV}(h:aC P o.op (bL (aU H t))=some (av H v))(hK:K [] (fP o.dst v)=some b)(hn:aq0 o.op=true:=by rfl):rX P H t k o K b:=
 aGb h (fun _=>rfl) (amr hn _) hK
theorem BA{v:TV}{K:IntKind→Int→Option γ}(h:Ot v K=some b):∃k n,av H v=.int k n∧K k n=some b∧(isNat v=true→∃m:Nat,v=.nat m∧k=.i64∧n=m):=by
 unfold Ot at h;split at h
 ·exact⟨_,_,rfl,h,fun h=>by cases h⟩
 ·rename_i m;exact⟨_,_,rfl,h,fun _=>⟨m,rfl,rfl,rfl⟩⟩
 ·cases h
theorem aAh{p q:Bool}{op:BinOp}{tt:TypeId}{kk:IntKind}{a c:Int}{K:TV→Option γ}(h:aqh p q op kk a c K=some b)
  (hp:p=true→kk.wrap (a+1)=a+1) (hq:q=true→kk=.i64∧0≤a):
  ∃v x,nO P op tt (.int kk a) (.int kk c)=some x∧(sj kk a→x=av H v)∧K v=some b∧(op=.lss→v=.lf .b (decide (a<c))):=by
 have one1:apl c=true→c=1:=fun h=>by unfold apl at h;split at h;rfl;cases h
 unfold aqh at h;split at h
 ·rcases bD h with⟨hb,h⟩|⟨_,h⟩
  ·simp only[qAa]at hb;have:=one1 hb.2;subst this;exact⟨_,_,by simp only[nO,if_true,hp hb.1,av,kr],fun _=>rfl,h,fun e=>by cases e⟩
  ·exact⟨_,_,by simp only[nO,if_true,av,kr],fun _=>rfl,h,fun e=>by cases e⟩
 ·rcases bD h with⟨hb,h⟩|⟨_,h⟩
  ·simp only[qAa]at hb;have:=one1 hb.2;subst this;obtain⟨rfl,h1⟩:=hq hb.1;refine⟨.lf (.n .i64) (a - 1),_,by simp only[nO,if_true];rfl,fun hw=>?_,h,fun e=>by cases e⟩;have h2:a≤9223372036854775807:=hw.2;exact congrArg (AV.int .i64) (ayI (n:=a - 1) (by omega) (by omega)).symm
  ·exact⟨_,_,by simp only[nO,if_true,av,kr],fun _=>rfl,h,fun e=>by cases e⟩
 ·exact⟨_,_,by simp only[nO,if_true,av,kr],fun _=>rfl,h,fun e=>by cases e⟩
 ·split at h
  ·obtain⟨x,h1,h2⟩:=ob h;unfold abO at h1;split at h1
   ·cases h1
   ·rename_i hc;cases h1;exact⟨_,_,by simp only[nO,if_true,hc,if_false,av,kr],fun _=>rfl,h2,fun e=>by cases e⟩
  ·cases h
 ·obtain⟨x,h1,h2⟩:=ob h;unfold Vr at h1;split at h1
  ·cases h1
  ·rename_i hc;cases h1;exact⟨.lf (.n kk) _,_,by simp only[nO,if_true,hc,if_false,av,kr],fun _=>rfl,h2,fun e=>by cases e⟩
 ·exact⟨_,_,by simp only[nO,if_true,av,kr],fun _=>rfl,h,fun e=>by cases e⟩
 ·exact⟨_,_,by simp only[nO,if_true,av,kr],fun _=>rfl,h,fun e=>by cases e⟩
 ·exact⟨_,_,by simp only[nO,if_true,av,kr],fun _=>rfl,h,fun _=>rfl⟩
 ·exact⟨_,_,by simp only[nO,if_true,av,kr],fun _=>rfl,h,fun e=>by cases e⟩
 ·exact⟨_,_,by simp only[nO,if_true,av,kr],fun _=>rfl,h,fun e=>by cases e⟩
 ·exact⟨_,_,by simp only[nO,if_true,av,kr],fun _=>rfl,h,fun e=>by cases e⟩
 ·split at h
  ·obtain⟨x,h1,h2⟩:=ob h;unfold adw at h1;split at h1
   ·rename_i hc;cases h1;have hb:(IntKind.i64.bits:Int)=64:=rfl;exact⟨.lf (.n .i64) _,_,by simp only[nO,if_true,hb];rw[if_pos ⟨hc.1,by omega⟩];rfl,fun _=>rfl,h2,fun e=>by cases e⟩
   ·cases h1
  ·cases h
 ·obtain⟨x,h1,h2⟩:=ob h;unfold as1 at h1;split at h1
  ·rename_i hc;cases h1;exact⟨.lf (.n kk) _,_,by simp only[nO,if_true];rw[if_pos hc];rfl,fun _=>rfl,h2,fun e=>by cases e⟩
  ·cases h1
 ·cases h
theorem aE5{op:BinOp}{tt:TypeId}{a c:Str}{K:TV→Option γ}(h:aB6 op a c K=some b):∃v,nO P op tt (.str a) (.str c)=some (av H v)∧K v=some b:=by
 unfold aB6 at h;split at h
 ·obtain⟨x,h1,h2⟩:=ob h;unfold awL at h1;split at h1
  ·rename_i hc;cases h1;exact⟨_,by simp only[nO,if_pos hc];rfl,h2⟩
  ·cases h1
 all_goals first|cases h|exact⟨_,rfl,h⟩
theorem aEK{p o:Bool}{op:BinOp}{tt:TypeId}{x y:TV}{K:TV→Option γ}(h:aCm (TI.of P) p o op tt x y K=some b)
  (hp:p=true→∀k a,oQ x=some (k,a)→k.wrap (a+1)=a+1):
  ∃v r,nO P op tt (av H x) (av H y)=some r∧(VF (av H x)→r=av H v)∧K v=some b∧(op=.lss→∀k a,oQ x=some (k,a)→∃c,oQ y=some (k,c)∧v=.lf .b (decide (a<c))):=by
 unfold aCm at h;split at h
 ·rcases bD h with⟨hb,h⟩|⟨_,h⟩
  ·have hb:ajq P tt=true:=hb;split at h
   all_goals first
    |cases h
    |(refine⟨_,_,?_,fun _=>rfl,h,fun e=>by cases e⟩;simp only[av,kr,nO,hb,if_true,Nn];done)
    |(refine⟨_,_,?_,fun _=>rfl,h,fun e=>by cases e⟩;simp only[av,kr,nO,hb,if_true,Nn];rename_i l _;cases l<;>rfl)
  ·cases h
 ·split at h
  ·obtain⟨v,h1,h2⟩:=aE5 (H:=H) h;exact⟨v,_,h1,fun _=>rfl,h2,fun _ k a hx=>by cases hx⟩
  ·cases h
 ·split at h
  ·rcases bD h with⟨hb,h⟩|⟨_,h⟩
   ·have hb:ad1 P tt=true:=hb;unfold aDD at h;split at h
    all_goals first|cases h|exact⟨_,_,by simp only[av,kr,nO,hb,if_true],fun _=>rfl,h,fun e=>by cases e⟩
   ·cases h
  ·cases h
 ·obtain⟨k1,a,e1,h1,hn⟩:=BA (H:=H) h;obtain⟨k2,c,e2,h2,_⟩:=BA (H:=H) h1;rcases bD h2 with⟨hk,h3⟩|⟨_,h3⟩
  ·have hk:k1=k2:=by
    have:=qAj hk;cases k1<;>cases k2<;>first|rfl|cases this
   subst hk;obtain⟨v,r,g1,g2,g3,g4⟩:=aAh (P:=P) (H:=H) (tt:=tt) h3 (fun e=>hp (qBE.1 e).1 _ _ (as0 e1)) (fun e=>by
    obtain⟨m,rfl,rfl,rfl⟩:=hn (qBE.1 e).1;exact⟨rfl,by omega⟩)
   rw[e1,e2];exact⟨v,r,g1,g2,g3,fun e k a' hx=>by
    rw[as0 e1]at hx;cases hx;exact⟨c,as0 e2,g4 e⟩⟩
  ·cases h3
end
end
end
section
open Go
section
variable {P:Program}{γ:Type}{b:γ}{H:List TObj}{t:List TV}{θ:Nat→Option ET}{up:List Nat}{k:Nat}{d:Option Tmp}{ty:TypeId}{ps:String}{aft:Array Edge}{gd:Option (Nat×Bool)}{K:List Nat→List TWr→Option γ}
theorem Wy(H:List TObj)(v:TV):av H (R7 v)=av H v:=by cases v<;>rfl
theorem xM{H:List TObj}{k:Nat}(h:mh (nth .dead H k)=true):dG (obj? (aB H) k)=true:=by
 rw[kV];unfold mh at h;split at h
 ·rename_i e;rw[e];rfl
 ·cases h
theorem agf{v:TV}{K:(e:ET)→List e.D→Option γ}(h:ajz H v K=some b):∃e xs tg,av H v=.slice (xs.map e.enc) tg∧K e xs=some b:=by
 unfold ajz at h;split at h
 ·exact⟨_,_,_,rfl,h⟩
 ·split at h
  ·rename_i hl;exact⟨_,_,_,by simp only[av,hl];rfl,h⟩
  ·rename_i hl;exact⟨_,_,_,by simp only[av,hl];rfl,h⟩
  ·cases h
 ·cases h
abbrev op'(d:Option Tmp)(op:Op)(ty:TypeId)(ps:String)(aft:Array Edge)(gd:Option (Nat×Bool)):Oper:=⟨d,op,ty,ps,aft,gd⟩
theorem aFQ{x:Operand}(h:dS (TI.of P) θ up k d t H (.move x) K=some b):rX P H t k (op' d (.move x) ty ps aft gd) K b:=
 nC (v:=gq t x) (by simp only[aC,bZ]) h
theorem az8{x:Operand}(h:dS (TI.of P) θ up k d t H (.assign x) K=some b):rX P H t k (op' d (.assign x) ty ps aft gd) K b:=
 nC (v:=gq t x) (by simp only[aC,bZ]) h
theorem aEN{c x y:Operand}(h:dS (TI.of P) θ up k d t H (.pick c x y) K=some b):rX P H t k (op' d (.pick c x y) ty ps aft gd) K b:=by
 simp only[dS]at h;split at h
 ·rename_i q hq;rcases bD h with⟨e,h⟩|⟨e,h⟩
  ·exact nC (v:=gq t x) (by simp only[aC,bZ,hq,av,kr,e,if_true]) h
  ·exact nC (v:=gq t y) (by simp only[aC,bZ,hq,av,kr,e,qBR,if_false]) h
 ·cases h
theorem auu{x:Operand}(h:dS (TI.of P) θ up k d t H (.nilCheck x) K=some b):rX P H t k (op' d (.nilCheck x) ty ps aft gd) K b:=by
 simp only[dS]at h;split at h
 ·rename_i e l hx;obtain⟨p,h1,h2⟩:=ob h;have hl:l=p.1::p.2:=by cases l with
   |nil=>cases h1
   |cons y r=>cases h1;rfl
  refine nC (v:=.eptr [e.seg p.1,.lf (.f e) p.2]) ?_ h2;have e1:bq H [e.seg p.1,.lf (.f e) p.2]=e.enc p.1++[.flist (List.map e.enc p.2)]:=by
   have:=amh H e p.1;rw[show[e.seg p.1,TV.lf (.f e) p.2]=[e.seg p.1]++[TV.lf (.f e) p.2]from rfl,Iw,this];rfl
  simp only[aC,bZ,hx,av,kr,e1,hl,qAy]
 ·rename_i l o hx;exact nC (v:=.ptr l o) (by simp only[aC,bZ,hx,av]) h
 ·rename_i cs hx;exact nC (v:=.eptr cs) (by simp only[aC,bZ,hx,av]) h
 ·rename_i f cs hx;exact nC (v:=.func f cs) (by simp only[aC,bZ,hx,av]) h
 ·cases h
theorem aBE{op:BinOp}{tt t2:TypeId}{x y:Operand}(hk:Kup t up)(h:dS (TI.of P) θ up k d t H (.binOp op tt x y t2) K=some b):rX P H t k (op' d (.binOp op tt x y t2) ty ps aft gd) K b:=by
 simp only[dS]at h;obtain⟨v,r,h1,h2,h3,h4⟩:=aEK (P:=P) (H:=H) h (fun hp kk a ha=>by
  split at hp
  ·rename_i i;exact hk i kk a hp ha
  ·cases hp)
 refine aGb (v:=v) (a:=r) (by simp only[aC,bZ];exact h1) (fun hv=>h2 ?_) ?_ h3
 ·rw[←bZ];exact hv x (by simp[Op.operands])
 ·intro d' i j tt' g e1 e2;obtain⟨rfl,rfl,rfl,rfl,rfl⟩:=e1;subst e2;refine⟨v,rfl,fun k a hx=>?_⟩;obtain⟨c,g1,g2⟩:=h4 rfl k a hx;exact⟨c,g1,fun b hb=>by rw[g2]at hb;cases hb;rfl⟩
theorem aD5{op:UnOp}{tt:TypeId}{x:Operand}(h:dS (TI.of P) θ up k d t H (.unOp op tt x) K=some b):rX P H t k (op' d (.unOp op tt x) ty ps aft gd) K b:=by
 simp only[dS]at h;split at h
 ·rename_i q hx;exact nC (v:=.lf .b (!q)) (by simp only[aC,bZ,hx,av,kr]) h
 ·rename_i k' n hx;exact nC (v:=.lf (.n k') _) (by simp only[aC,bZ,hx,av,kr]) h
 ·cases h
theorem arA{s f:Nat}{x:Operand}(h:dS (TI.of P) θ up k d t H (.fieldAddr s x f) K=some b):rX P H t k (op' d (.fieldAddr s x f) ty ps aft gd) K b:=by
 simp only[dS]at h;rw[Uu]at h;split at h
 ·rename_i fo tt hf;split at h
  ·rename_i l o hx;exact nC (v:=.ptr l (o+fo)) (by simp only[aC,bZ,hx,hf,av]) h
  ·rename_i cs hx;obtain⟨a,r,h1,h2,h3⟩:=zH (H:=H) _ _ _ _ h;exact nC (v:=.eptr r) (by simp only[aC,bZ,hx,hf,av,h1,←h2,qCU]) h3
  ·rename_i l i z o hx;exact nC (v:=.ap l i z (o+fo)) (by simp only[aC,bZ,hx,hf,av,qBN]) h
  ·cases h
 ·cases h
theorem aBL{s f:Nat}{x:Operand}(h:dS (TI.of P) θ up k d t H (.field s x f) K=some b):rX P H t k (op' d (.field s x f) ty ps aft gd) K b:=by
 simp only[dS]at h;rw[Uu]at h;have key:∀(fo:Nat) (tt:TypeId) (cs:List TV),Bo P s f=some (fo,tt)→av H (gq t x)=.agg (bq H cs)→(ldK (TI.of P) tt fo cs fun v=>K [] (fP d (R7 v)))=some b→rX P H t k (op' d (.field s x f) ty ps aft gd) K b:=fun fo tt cs hf hx h=>by
  obtain⟨v,h1,h2⟩:=abC (H:=H) h;exact nC (v:=R7 v) (by simp only[aC,bZ,hx,hf,h1,Wy]) h2
 split at h
 ·rename_i fo tt hf;split at h
  ·rename_i cs hx;exact key fo tt cs hf (by rw[hx];rfl) h
  ·rename_i e y hx;exact key fo tt _ hf (by rw[hx];simp only[av,kr,bq,AB,qAt]) h
  ·cases h
 ·cases h
theorem Qm{e:ET}{sz:Nat}(h:acC e sz=true):e.sz=sz:=qAj h
theorem aIL{tt:TypeId}{sz:Nat}(h:(TI.of P tt).ix=.sl (some sz)):∃e,P.underlying tt=some (.slice e)∧sizeT P e=some sz:=by
 have h:Qy P tt=.sl (some sz):=h;unfold Qy at h
 grind
theorem az5{n:Int}{K:Nat→Option γ}{b:γ}:∀(m q:Nat),atK n m q K=some b→∃r,q≤r∧r<q+m∧n=(r:Int)∧K r=some b
 |0,_,h=>by cases h
 |m+1,q,h=>by
  rcases bD h with⟨hc,h⟩|⟨_,h⟩
  ·grind
  ·obtain⟨r,h1,h2,h3⟩:=az5 m (q+1) h
   grind
theorem aE3{len:Nat}{x:Int}{c:Nat}(h:FJ len x=some c):0≤x∧x≤len∧c=x.toNat:=by
 unfold FJ at h;split at h
 ·grind
 ·cases h
theorem arj{tt:TypeId}{x i:Operand}(h:dS (TI.of P) θ up k d t H (.indexAddr tt x i) K=some b):rX P H t k (op' d (.indexAddr tt x i) ty ps aft gd) K b:=by
 simp only[dS]at h;split at h
 ·rename_i sz hix;obtain⟨kk,n,e1,h1,_⟩:=BA (H:=H) h;split at h1
  ·rename_i l z hx;split at h1
   ·rename_i e xs hl;rcases bD h1 with⟨hz,h2⟩|⟨_,h2⟩
    ·have hz:z=sz:=qAj hz;obtain⟨y,h3,h4⟩:=ob h2;obtain⟨g1,g2,g3⟩:=Nb h3;have hs:(TI.of P tt).ix=.sl (some sz):=hix;obtain⟨ee,he,hsz⟩:=aIL hs;refine nC (v:=.ap l n z 0) ?_ h4;simp only[aC,bZ,hx,av,eY]
     grind
    ·cases h2
   ·cases h1
  ·obtain⟨e,xs,tg,e2,h2⟩:=agf h1;rcases bD h2 with⟨hz,h2⟩|⟨_,h2⟩
   ·have hz:=Qm hz;obtain⟨y,h3,h4⟩:=ob h2;obtain⟨g1,g2,g3⟩:=Nb h3;obtain⟨v,h5,h6⟩:=ac9 (P:=P) (t:=tt) (x:=x) (i:=i) (ρ:=bL (aU H t)) (K:=fun v=>v=.eptr (e.enc y)) (by
     simp only[bZ];rw[hix,e1,e2];exact⟨e.enc y,by rw[qAE,g3];rfl,g1,by rw[LW];exact hz,rfl⟩)
    exact nC (v:=.eptr [e.seg y]) (by rw[h5,h6];simp only[av,amh]) h4
   ·cases h2
 ·rename_i len sz hix;split at h
  ·rename_i l o hx;obtain⟨kk,n,e1,h1,_⟩:=BA (H:=H) h;obtain⟨q,q1,q2,q3,h2⟩:=az5 _ _ h1;obtain⟨v,h5,h6⟩:=ac9 (P:=P) (t:=tt) (x:=x) (i:=i) (ρ:=bL (aU H t)) (K:=fun v=>v=.ptr l (o+q*sz)) (by
    simp only[bZ];rw[hix,e1,hx];exact⟨⟨by omega,by omega⟩,by rw[q3];rfl⟩)
   exact nC (v:=.ptr l (o+q*sz)) (by rw[h5,h6];rfl) h2
  ·cases h
 ·cases h
theorem aBV{tt:TypeId}{x i:Operand}(h:dS (TI.of P) θ up k d t H (.index tt x i) K=some b):rX P H t k (op' d (.index tt x i) ty ps aft gd) K b:=by
 simp only[dS]at h;split at h
 ·rename_i s hx;rcases bD h with⟨hs,h⟩|⟨_,h⟩
  ·have hs:aC.isStrT P tt=true:=hs;obtain⟨kk,n,e1,h1,_⟩:=BA (H:=H) h;obtain⟨y,h2,h3⟩:=ob h1;unfold oL at h2;split at h2
   ·rename_i hc;cases h2;exact nC (v:=.lf (.n .u8) _) (by simp only[aC,bZ,hx,e1,av,kr];rw[if_pos ⟨hs,hc⟩]) h3
   ·cases h2
  ·cases h
 ·cases h
theorem axU{x:Operand}{i:Nat}(h:dS (TI.of P) θ up k d t H (.extract x i) K=some b):rX P H t k (op' d (.extract x i) ty ps aft gd) K b:=by
 simp only[dS]at h;split at h
 ·rename_i vs hx;rcases bD h with⟨hi,h⟩|⟨_,h⟩
  ·have hi:i<vs.length:=qAf hi;refine nC (v:=R7 (nth .unk vs i)) ?_ h;simp only[aC,bZ,hx,av];simp only[uM,qAi,hi,if_true,Wy,jF,List.getD,qAE,qAc hi,qAx,qAw]
  ·cases h
 ·cases h
theorem Nt{v:Option TV}{dd:Int}{K:Int→Option γ}(h:Q6 v dd K=some b):∃n,Bd (v.map (av H)) n dd∧K n=some b:=by
 unfold Q6 at h;split at h
 ·exact⟨_,.none _,h⟩
 ·obtain⟨kk,n,e1,h1,_⟩:=BA (H:=H) h;exact⟨n,by simp only[qAx,e1];exact .int _ _ _,h1⟩
theorem apL(H:List TObj)(t:List TV)(x:Option Operand):x.map (bL (aU H t))=(x.map (gq t)).map (av H):=by cases x<;>simp[bZ]
theorem aA7{tt:TypeId}{x:Operand}{lo hi:Option Operand}(h:dS (TI.of P) θ up k d t H (.slice tt x lo hi none) K=some b):rX P H t k (op' d (.slice tt x lo hi none) ty ps aft gd) K b:=by
 simp only[dS]at h;split at h
 ·rename_i s hx;rcases bD h with⟨hs,h⟩|⟨_,h⟩
  ·obtain⟨lo',hl,h⟩:=Nt (H:=H) h;obtain⟨hi',hh,h⟩:=Nt (H:=H) h;obtain⟨y,h1,h2⟩:=ob h;obtain⟨r,⟨l0,h0,q1,q2,q3⟩,q4⟩:=aIs (B:=fun r=>r=y) h1 hl hh rfl;obtain⟨v,h5,h6⟩:=abU (P:=P) (t:=tt) (x:=x) (lo:=lo) (hi:=hi) (ρ:=bL (aU H t)) (K:=fun v=>v=.str y) (by
    rw[bZ,hx,apL,apL];rw[show(TI.of P tt).isStr=true from hs];exact⟨l0,h0,q1,q2,by rw[←q3,q4]⟩)
   exact nC (v:=.lf .s y) (by rw[h5,h6];rfl) h2
  ·cases h
 ·rename_i l z hx;split at h
  ·rename_i e xs sz hl hsz;obtain⟨hi',hh,h⟩:=Nt (H:=H) h;obtain⟨c,h1,h2⟩:=ob h;obtain⟨g1,g2,g3⟩:=aE3 h1;have hs:aC.sliceT P tt=some sz:=hsz;refine nC (v:=.psl l z (some c)) ?_ h2;have hb:eX (hi.map (bL (aU H t))) xs.length xs.length=some c:=by
    rw[apL];generalize Option.map (av H) (Option.map (gq t) hi)=q at hh;cases hh with
    |none=>simp[eX];omega
    |int k n=>simp[eX];omega
   simp only[aC,bZ,hx,av,hl,eY,hs,hb]
  ·cases h
 ·split at h
  ·rename_i sz hsz;obtain⟨e,xs,tg,e2,h2⟩:=agf h
   ·rcases bD h2 with⟨hz,h⟩|⟨_,h⟩
    ·have hz:=Qm hz;obtain⟨lo',hl,h⟩:=Nt (H:=H) h;obtain⟨hi',hh,h⟩:=Nt (H:=H) h;obtain⟨y,h1,h2⟩:=ob h;obtain⟨r,⟨l0,h0,q1,q2,q2',q3⟩,q4⟩:=aJN (f:=e.enc) (sz:=e.sz) (B:=fun r=>r=y.map e.enc) h1 hl hh (NS e) rfl;obtain⟨v,h5,h6⟩:=abU (P:=P) (t:=tt) (x:=x) (lo:=lo) (hi:=hi) (ρ:=bL (aU H t)) (K:=fun v=>v=.slice (y.map e.enc) .shared) (by
      rw[bZ,e2,apL,apL];rw[hsz];exact⟨l0,h0,q1,q2,by rw[←hz];exact q2',by rw[←q3,q4]⟩)
     exact nC (v:=.lf (.l e) y) (by rw[h5,h6];rfl) h2
    ·cases h
  ·cases h
end
end
section
open Go
section
variable {P:Program}{γ:Type}{b:γ}{H:List TObj}{t:List TV}{θ:Nat→Option ET}{up:List Nat}{k:Nat}{d:Option Tmp}{ty:TypeId}{ps:String}{aft:Array Edge}{gd:Option (Nat×Bool)}{K:List Nat→List TWr→Option γ}
theorem aly{a:AV}(h:okA a=true):av H (Ye a)=a∧one (Ye a):=by
 unfold okA at h;split at h<;>first|exact⟨rfl,fun _=>rfl⟩|cases h
theorem RP:∀{z:List AV},acw z=true→bq H (z.map Ye)=z
 |[],_=>rfl
 |a::z,h=>by
  simp only[acw,qAa]at h;simp only[qAy,bq,(aly (H:=H) h.1).2 _,(aly (H:=H) h.1).1,RP h.2,qAM,qAo]
theorem avC{z:AV}(h:okZ z=true):av H (acg z)=z:=by
 have key:okA z=true→acg z=Ye z→av H (acg z)=z:=fun h e=>by
  rw[e];exact(aly h).1
 cases z with
 |agg cs=>simp only[acg,av,RP (show acw cs=true from h)]
 |_=>exact key h rfl
theorem aqa{place:Nat→Option (Nat×Nat)}:∀(l:List (Nat×TV)) (cs:List TV) (K:List TV→Option γ),aia H place l cs K=some b→∃cs',lH place (bq H cs) (l.map fun p=>(p.1,av H p.2))=some (bq H cs')∧K cs'=some b:=by
 intro l
 induction l with
 |nil=>intro cs K h;exact⟨cs,rfl,h⟩
 |cons p l ih=>
  intro cs K h;simp only[aia]at h;split at h
  ·rename_i off sz hp;split at h
   ·rename_i new hs;rcases bD h with⟨hw,h⟩|⟨_,h⟩
    ·have hw:(bq H new).length=sz:=by rw[l7];exact qAj hw
     obtain⟨a,r,h1,h2,h3⟩:=zH (H:=H) _ _ _ _ h;obtain⟨c,r',h4,h5,h6⟩:=zH (H:=H) _ _ _ _ h3;obtain⟨cs',h7,h8⟩:=ih _ _ h6;refine⟨cs',?_,h8⟩;have e1:(bq H cs).take off=bq H a:=by rw[h1,←h2,qDx]
     have e2:(bq H cs).drop (off+sz)=bq H r':=by
      grind
     simp only[qAy,lH,hp,IV hs];rw[if_pos ⟨hw,by rw[h1,h4];simp;omega⟩,e1,e2];rw[Iw,Iw,←qAm]at h7;exact h7
    ·cases h
   ·cases h
  ·cases h
theorem amX(l:List (Nat×Operand)):(l.map fun p=>(p.1,bL (aU H t) p.2))=(l.map fun p=>(p.1,gq t p.2)).map fun p=>(p.1,av H p.2):=by
 rw[qBh];exact qBu fun p _=>by simp only[Function.comp,bZ]
theorem aBh{tt:TypeId}{parts:Array (Nat×Operand)}(h:dS (TI.of P) θ up k d t H (.build tt parts) K=some b):rX P H t k (op' d (.build tt parts) ty ps aft gd) K b:=by
 rcases bD h with⟨hs,h⟩|⟨_,h⟩
 ·have hs:zP P tt=true:=hs;split at h
  ·rename_i z hz;have hz:lI P tt=some z:=hz;rcases bD h with⟨ho,h⟩|⟨_,h⟩
   ·obtain⟨cs',h1,h2⟩:=aqa _ _ _ h;rw[RP ho,←amX,funext (anZ P tt)]at h1;exact nC (v:=ady cs') (by simp only[aC,hs,if_true,hz,h1,qAx,alX]) h2
   ·cases h
  ·cases h
 ·rename_i hs;have hs:zP P tt=false:=hs;split at h
  ·rename_i len sz z hix hz;have hz:lI P tt=some z:=hz;have hix:Qy P tt=.arr len (some sz):=hix;have ha:ahf P tt=some sz:=by
    unfold Qy at hix;unfold ahf
    grind
   rcases bD h with⟨ho,h⟩|⟨_,h⟩
   ·obtain⟨cs',h1,h2⟩:=aqa _ _ _ h;rw[RP ho,←amX]at h1;exact nC (v:=ady cs') (by simp only[aC,hs,qBR,if_false,ha,hz,h1,qAx,alX]) h2
   ·cases h
  ·cases h
theorem auq{f:Nat}{first cap:Array Operand}(h:dS (TI.of P) θ up k d t H (.makeFunc (.func f) first cap) K=some b):rX P H t k (op' d (.makeFunc (.func f) first cap) ty ps aft gd) K b:=by
 rcases bD h with⟨hs,h⟩|⟨_,h⟩
 ·have hs:=qAj hs;refine nC (v:=.func f (cap.toList.map fun x=>R7 (gq t x))) ?_ h;simp only[aC,hs,if_true,av,uM,qBh,Option.some.injEq,AV.func.injEq,true_and];exact qBu fun x _=>by simp only[Function.comp,Wy];rw[←uM,bZ]
 ·cases h
theorem aEm{tt:TypeId}{x:Operand}(h:dS (TI.of P) θ up k d t H (.load tt x) K=some b):rX P H t k (op' d (.load tt x) ty ps aft gd) K b:=by
 simp only[dS]at h;split at h
 ·rename_i cs hx;obtain⟨v,h1,h2⟩:=abC (H:=H) h;exact nC (v:=R7 v) (by simp only[aC,bZ,hx,av,Wy];simpa using h1) h2
 ·rename_i l off hx;split at h
  ·rename_i cs hl;obtain⟨v,h1,h2⟩:=abC (H:=H) h;refine Hq (rd:=[l]) (ws:=fP d (R7 v)) ?_ h2;simp only[aP,aC,bZ,hx,av,kV,hl,gV,h1,qAx,jW,Wy]
  ·cases h
 ·rename_i l i z off hx;split at h
  ·rename_i e xs hl;rcases bD h with⟨hc,hh⟩|⟨_,h⟩
   ·clear h;simp only[qAa]at hc;obtain⟨c1,c2,c3⟩:=hc;have c1:z=e.sz:=qAj c1;have c2:off=0:=qAj c2;have c3:1≤z:=qAf c3;subst c1;obtain⟨y,h1,hh⟩:=ob hh;obtain⟨g1,g2,g3⟩:=Nb h1;obtain⟨v,h2,h3⟩:=abC (H:=H) hh;rw[amh,qAY]at h2;refine Hq (rd:=[l]) (ws:=fP d (R7 v)) ?_ h3;have hi:(i.toNat*e.sz+0)/e.sz=i.toNat:=by rw[qAS,Nat.mul_div_cancel _ (by omega)]
    have hget:(xs.map e.enc).getD i.toNat []=e.enc y:=by simp[g3]
    simp only[aP,aC,bZ,hx,av,kV,gV,jW,Wy]
    grind
   ·cases h
  ·cases h
 ·cases h
theorem axo{s tt:TypeId}{x:Operand}(h:dS (TI.of P) θ up k d t H (.convert s tt x) K=some b):rX P H t k (op' d (.convert s tt x) ty ps aft gd) K b:=by
 simp only[dS]at h;have key:∀(kk:IntKind) (n:Int),av H (gq t x)=.int kk n→(bif (TI.of P s).int.isSome then(match(TI.of P tt).int with|some k=>K [] (fP d (.lf (.n k) (k.wrap n)))|none=>none)else none)=some b→rX P H t k (op' d (.convert s tt x) ty ps aft gd) K b:=fun kk n hx h=>by
  rcases bD h with⟨hs,h⟩|⟨_,h⟩
  ·split at h
   ·rename_i k2 hk2;have h2:=alC hk2;obtain⟨k1,hk1⟩:=qCr.1 hs;have h1:=alC hk1;refine nC (v:=.lf (.n k2) (k2.wrap n)) ?_ h;simp only[aC,bZ,hx,aC.convT,h1,h2,av,kr]
   ·cases h
  ·cases h
 split at h
 ·rename_i kk n hx;exact key _ _ (by rw[hx];rfl) h
 ·rename_i n hx;exact key .i64 n (by rw[hx];rfl) h
 ·cases h
theorem agT:∀{cs:List TV},ai6 H cs=true→(bq H cs).all isScalar=true
 |[],_=>rfl
 |v::cs,h=>by
  simp only[ai6,qAa]at h;simp only[bq,qEa,agT h.2,qBH];have h1:=h.1;cases v with
  |lf tt x=>cases tt<;>first|rfl|(cases h1;done)|(rename_i e;have:=NS e x;simp only[dH,qAa]at this;exact this.2)
  |own l=>
   simp only[scB]at h1;split at h1
   ·rename_i hl;simp only[av,hl];rfl
   ·rename_i hl;simp only[av,hl];rfl
   ·cases h1
  |psl l z c=>
   cases c with
   |some n=>rfl
   |none=>
    simp only[scB]at h1;split at h1
    ·rename_i hl;simp only[av,hl];rfl
    ·rename_i hl;simp only[av,hl];rfl
    ·cases h1
  |_=>first|rfl|(cases h1;done)
theorem am6{cs:List TV}{off:Nat}{vs:List TV}{K:List TV→Option γ}(h:vS cs off vs K=some b):∃cs',vS cs off vs some=some cs'∧K cs'=some b:=by
 have key:∀(f:Nat) (cs:List TV) (n:Nat) (K:List TV→List TV→Option γ),splitK f cs n K=some b→∃a r,(∀{δ:Type} (K':List TV→List TV→Option δ),splitK f cs n K'=K' a r)∧K a r=some b:=by
  intro f
  induction f with
  |zero=>intro cs n K h;cases h
  |succ f ih=>
   intro cs n K h;unfold splitK at h;cases n with
   |zero=>exact⟨[],cs,fun K'=>by unfold splitK;rfl,h⟩
   |succ m=>
    cases cs with
    |nil=>cases h
    |cons c r=>
     rcases bD h with⟨hw,h1⟩|⟨hw,h1⟩
     ·obtain⟨a,r',g1,g2⟩:=ih _ _ _ h1;exact⟨c::a,r',fun K'=>by unfold splitK;simp only[hw];exact g1 _,g2⟩
     ·split at h1
      ·rename_i e x;obtain⟨a,r',g1,g2⟩:=ih _ _ _ h1;exact⟨a,r',fun K'=>by unfold splitK;simp only[hw];exact g1 _,g2⟩
      ·cases h1
 obtain⟨a,r,g1,g2⟩:=key _ _ _ _ h;obtain⟨c,r',g3,g4⟩:=key _ _ _ _ g2;exact⟨_,by unfold vS;rw[g1,g3],g4⟩
theorem auV{cs cs' vs:List TV}{off:Nat}(H:List TObj)(h:vS cs off vs some=some cs'):bq H cs'=(bq H cs).take off++bq H vs++(bq H cs).drop (off+(bq H vs).length)∧off+(bq H vs).length≤(bq H cs).length:=by
 unfold vS at h;obtain⟨a,r,h1,h2,h3⟩:=zH (H:=H) _ _ _ _ h;obtain⟨c,r',h4,h5,h6⟩:=zH (H:=H) _ _ _ _ h3;cases h6;rw[←l7 H vs]at h5;have e1:(bq H cs).take off=bq H a:=by rw[h1,←h2,qDx]
 have e2:(bq H cs).drop (off+(bq H vs).length)=bq H r':=by
  rw[h1,h4,←qAm,qDs (by simp only[qAe];omega)]
 refine⟨by rw[Iw,Iw,e1,e2,qAm],?_⟩;rw[h1,h4];simp only[qAe];omega
theorem aqW{xs ys:List AV}(h:Cvs false xs ys):xs=ys:=by
 induction h with
 |nil=>rfl
 |cons h _ ih=>rw[ih];cases h;rfl
theorem aBZ{tt:TypeId}{x y:Operand}(h:dS (TI.of P) θ up k d t H (.store tt x y) K=some b):rX P H t k (op' d (.store tt x y) ty ps aft gd) K b:=by
 simp only[dS]at h;split at h
 ·rename_i l off hx;split at h
  ·rename_i new sz hs hz;have hz:sizeT P tt=some sz:=hz;split at h
   ·rename_i cs hl;rcases bD h with⟨hc,h⟩|⟨_,h⟩
    ·simp only[qAa]at hc;obtain⟨⟨c1,c2⟩,c3⟩:=hc;have c1:(bq H new).length=sz:=by rw[l7];exact qAj c1
     have c2:off+sz≤(bq H cs).length:=by rw[l7];exact qAf c2
     refine Hq ?_ h;simp only[aP,aC,bZ,hx,av,IV hs,kV,hl,gV];rw[if_pos ⟨by rw[c1];exact hz,by rw[c1];exact c2,agT c3⟩];simp only[Cj,GU,hl,gV,jW];rfl
    ·cases h
   ·cases h
  ·cases h
 ·rename_i l i z off hx;split at h
  ·rename_i new sz hs hz;have hz:sizeT P tt=some sz:=hz;split at h
   ·rename_i e xs hl;rcases bD h with⟨hc,hh⟩|⟨_,h⟩
    ·clear h;simp only[qAa]at hc;obtain⟨⟨c1,c2,c4,c5⟩,c3⟩:=hc;have c1:(bq H new).length=sz:=by rw[l7];exact qAj c1
     have c2:z=e.sz:=qAj c2;subst c2;have c4:1≤sz:=qAf c4;have c5:off+sz≤e.sz:=qAf c5;obtain⟨x,h1,h⟩:=ob hh;obtain⟨g1,g2,g3⟩:=Nb h1;obtain⟨cs,h2,h⟩:=am6 h;obtain⟨u,r,ys,h3,h4,h5⟩:=Xx _ _ _ _ h;split at h3
     ·obtain⟨y',rfl,h6⟩:=kS h3;have e1:bq H cs=e.enc y':=by
       rw[h4];simp only[bq,qAt];exact(aqW h5).symm
      have e2:=(auV H h2).1;rw[XT]at e2;have hi:(i.toNat*e.sz+off)/e.sz=i.toNat:=by
       rw[qBK,Nat.mul_add_div (by omega),Nat.div_eq_of_lt (by omega),qAS]
      have hm:(i.toNat*e.sz+off)%e.sz=off:=by
       rw[qBK,qDr,qCl (by omega)]
      have hlen:i.toNat<(xs.map e.enc).length:=by rw[qAi];omega
      have hget:(xs.map e.enc).getD i.toNat []=e.enc x:=by simp[List.getD,g3]
      refine Hq ?_ h6;have hr:(upd xs i y').map e.enc=(xs.map e.enc).set i.toNat ((e.enc x).take off++bq H new++(e.enc x).drop (off+(bq H new).length)):=by
       rw[←e2,e1,upd,qCN]
      simp only[aP,aC,bZ,hx,av,IV hs,kV,hl,gV,hi,hm,Cj,GU,ET.eq_self,jW,hr,hget];by_cases hw:sizeT P tt=some (bq H new).length∧(bq H new).length=e.sz∧i.toNat*e.sz+off=i.toNat*e.sz∧i.toNat<(xs.map e.enc).length∧(bq H new).all isScalar
      ·rw[if_pos hw];have ho:off=0:=by omega
       subst ho;have hd:(e.enc x).drop (0+(bq H new).length)=[]:=qDu (by rw[LW];omega);rw[hd,qAX,qAo,qAt];rfl
      ·rw[if_neg hw,if_pos ⟨by rw[c1];exact hz,by omega,hlen,by omega,agT c3⟩];rfl
     ·cases h3
    ·cases h
   ·cases h
  ·cases h
 ·cases h
theorem aCO{tt:TypeId}(h:dS (TI.of P) θ up k d t H (.alloc tt) K=some b):rX P H t k (op' d (.alloc tt) ty ps aft gd) K b:=by
 simp only[dS]at h;split at h
 ·rename_i z hz;have hz:lI P tt=some z:=hz;rcases bD h with⟨hc,h⟩|⟨_,h⟩
  ·simp at hc;refine Hq (rd:=[k]) ?_ h;simp only[aP,aC,xM hc.2,if_true,hz,qAx,Cj,GU,gV,RP hc.1,jW,av]
  ·cases h
 ·cases h
theorem aIa{tt:TypeId}{x:Operand}(h:dS (TI.of P) θ up k d t H (.box tt x) K=some b)(hav:∀cs,F9 H (gq t x)=some cs→mh (nth .dead H k)=true→bq (H.set k (.box cs)) cs=bq H cs):rX P H t k (op' d (.box tt x) ty ps aft gd) K b:=by
 simp only[dS]at h;split at h
 ·rename_i cs hx;rcases bD h with⟨hc,h⟩|⟨_,h⟩
  ·refine Hq (rd:=[k]) ?_ h;simp only[aP,aC,xM hc,if_true,bZ,IV hx,qAx,Cj,GU,gV,jW,av,hav cs hx hc]
  ·cases h
 ·cases h
theorem axX{tt:TypeId}(h:dS (TI.of P) θ up k d t H (.makeMap tt none) K=some b):rX P H t k (op' d (.makeMap tt none) ty ps aft gd) K b:=by
 simp only[dS]at h;split at h
 ·split at h
  ·rcases bD h with⟨hc,h⟩|⟨_,h⟩
   ·refine Hq (rd:=[k]) ?_ h;simp only[aP,aC,xM hc,if_true,Cj,GU,gV,qCM,jW,av]
   ·cases h
  ·cases h
 ·cases h
theorem aGl{args:Array Operand}{ats:Array TypeId}(h:dS (TI.of P) θ up k d t H (.call {callee:=.builtin .len,args,argTypes:=ats}) K=some b):rX P H t k (op' d (.call {callee:=.builtin .len,args,argTypes:=ats}) ty ps aft gd) K b:=by
 simp only[dS]at h;split at h
 ·rename_i x tt ha hat;split at h
  ·rename_i s hx;rcases bD h with⟨hs,h⟩|⟨_,h⟩
   ·have hs:aC.isStrT P tt=true:=hs;refine nC (v:=.nat s.length) ?_ h;simp only[aC,ha,hat,bZ,hx,av,kr,hs,if_true]
   ·cases h
  ·rename_i hx;rcases bD h with⟨hs,h⟩|⟨_,h⟩
   ·have hs:(aC.sliceT P tt).isSome=true:=hs;refine nC (v:=.nat 0) ?_ h;simp only[aC,ha,hat,bZ,hx,hs];rfl
   ·cases h
  ·rename_i l z hx;split at h
   ·rename_i e xs hl;rcases bD h with⟨hs,h⟩|⟨_,h⟩
    ·have hs:(aC.sliceT P tt).isSome=true:=hs;refine nC (v:=.nat xs.length) ?_ h;simp only[aC,ha,hat,bZ,hx,av,hl,eY,hs,if_true]
    ·cases h
   ·cases h
  ·rcases bD h with⟨hs,h⟩|⟨_,h⟩
   ·have hs:(aC.sliceT P tt).isSome=true:=hs;obtain⟨e,xs,tg,e2,h2⟩:=agf h;refine nC (v:=.nat xs.length) ?_ h2;simp only[aC,ha,hat,bZ,e2,hs,if_true,av,qAi]
   ·cases h
 ·cases h
theorem aHd{args:Array Operand}{ats:Array TypeId}(h:dS (TI.of P) θ up k d t H (.call {callee:=.builtin .min,args,argTypes:=ats}) K=some b):rX P H t k (op' d (.call {callee:=.builtin .min,args,argTypes:=ats}) ty ps aft gd) K b:=by
 simp only[dS]at h;split at h
 ·rename_i x y ha;obtain⟨k1,a,e1,h1,_⟩:=BA (H:=H) h;obtain⟨k2,c,e2,h2,_⟩:=BA (H:=H) h1;rcases bD h2 with⟨hk,h3⟩|⟨_,h3⟩
  ·have hk:k1=k2:=by
    have:=qAj hk;cases k1<;>cases k2<;>first|rfl|cases this
   subst hk;refine nC (v:=.lf (.n k1) (if c<a then c else a)) ?_ h3;simp only[aC,ha,bZ,e1,e2,if_true,av,kr]
  ·cases h3
 ·cases h
end
end
section
open Go
section
variable {P:Program}{γ:Type}{b:γ}{H:List TObj}{t:List TV}{θ:Nat→Option ET}{up:List Nat}{k:Nat}{d:Option Tmp}{ty:TypeId}{ps:String}{aft:Array Edge}{gd:Option (Nat×Bool)}{K:List Nat→List TWr→Option γ}
theorem G9{k:Nat}(h:mh (nth .dead H k)=true):k<H.length:=by
 apply qAn;intro hn;rw[jF,List.getD,qAC (qBd hn)]at h;cases h
theorem cK{α:Type}{d:α}{l:List α}{k:Nat}{v:α}(h:k<l.length):nth d (l.set k v) k=v:=by rw[jF];simp[h]
theorem aX{α:Type}{d:α}{l:List α}{k m:Nat}{v:α}(h:k≠m):nth d (l.set k v) m=nth d l m:=by rw[jF,jF];simp[qBV h]
theorem YC{k z:Nat}{e:ET}{r:List e.D}(h:k<H.length):av (H.set k (.arr e r)) (.psl k z none)=.psl k z r.length:=by simp only[av,cK h,eY]
theorem Ym{k:Nat}{e:ET}{r:List e.D}(h:k<H.length):av (H.set k (.own e r)) (.own k)=.slice (r.map e.enc) (.tip k e.sz):=by simp only[av,cK h,gD]
theorem azd{e:ET}:∀(l:List (Nat×Operand)) (i:Nat) (K:List e.D→Option γ),aqS H e i (l.map fun p=>(p.1,gq t p.2)) K=some b→
  ∃(xs:List e.D) (css:List (List AV)),K xs=some b∧VK i l=true∧css.length=l.length∧(∀c∈css,c.length=e.sz)∧(∀j:Nat,j<l.length→∃p,l[j]? =some p∧eO (bL (aU H t) p.2)=css[j]?)∧css.map (fun c=>c.map shr)=xs.map e.enc:=by
 intro l
 induction l with
 |nil=>intro i K h;exact⟨[],[],h,rfl,rfl,fun c hc=>(by cases hc),fun j hj=>(by cases hj),rfl⟩
 |cons p l ih=>
  intro i K h;rcases bD h with⟨hi,h⟩|⟨_,h⟩
  ·obtain⟨x,cs,h1,h2,h3⟩:=aCy h;obtain⟨xs,css,g1,g2,g3,g4,g5,g6⟩:=ih _ _ h1;refine⟨x::xs,cs::css,g1,by simp only[VK,hi,g2,qCz],by simp[g3],?_,?_,by simp only[qAy,arb h3,g6]⟩
   ·intro c hc;rcases qAh.1 hc with rfl|hc
    ·rw[←h3.len,LW]
    grind
   ·intro j hj;cases j with
    |zero=>exact⟨p,rfl,by rw[bZ];exact h2⟩
    |succ j=>
     grind
  ·cases h
theorem aoW{tt:TypeId}{len:Nat}{parts:Array (Nat×Operand)}(h:dS (TI.of P) θ up k d t H (.buildSlice tt len parts) K=some b):rX P H t k (op' d (.buildSlice tt len parts) ty ps aft gd) K b:=by
 simp only[dS]at h;split at h
 ·rename_i et sz by_ he;have he:mX P tt=some (et,sz,by_):=he;split at h
  ·rename_i e z hθ hz;have hz:lI P et=some z:=hz;rcases bD h with⟨hc,hh⟩|⟨_,h⟩
   ·clear h;simp only[qAa]at hc;obtain⟨⟨c1,c2,c3⟩,c4,c5,c6⟩:=hc;have c1:=qAj c1;have c2:=Qm c2;subst c2;have c4:=qAj c4;have c5:=qAf c5;have c6:=qAf c6;obtain⟨xs,css,g1,g2,g3,g4,g5,g6⟩:=azd _ _ _ hh;have hlen:((List.replicate len z).flatten).length=len*e.sz:=by
     simp_all
    have hf:=afe (ρ:=bL (aU H t)) (sz:=e.sz) parts.toList 0 css ((List.replicate len z).flatten) g2 g3 g4 g5 (by rw[hlen,qAL,c1];exact qAd _);rw[qDM,qAX,qAo,qAL,c1,qDu (by rw[hlen];exact qAd _),qAt]at hf;refine Hq (rd:=[k]) ?_ g1;simp only[aP,aC,he,hz];rw[if_pos ⟨xM c3,c5,c6,c4⟩,hf];have hx:xs.length=len:=by
     have:=congrArg List.length g6
     grind
    have hch:chunks e.sz len (css.flatten.map shr)=xs.map e.enc:=by
     have:=chunks_flatten (sz:=e.sz) (css:=css.map fun c=>c.map shr) (fun c hc=>by
      obtain⟨c',h1,rfl⟩:=qAJ.1 hc;rw[qAi];exact g4 c' h1)
     grind
    simp only[qAx,Cj,GU,gV,jW,wrH,Ym (G9 c3),hch,hx]
   ·cases h
  ·cases h
 ·cases h
theorem aGk{l:Int}(h:isZ l=true):l=0:=by unfold isZ at h;split at h;rfl;cases h
theorem aCw{x y:Operand}(h:ax1 x y=true):x=y:=by
 unfold ax1 at h;split at h
 ·rw[qAj h]
 ·cases h
theorem aFJ{z:List AV}(h:aCT z=true):z=[.bool false]:=by
 unfold aCT at h;split at h
 ·rfl
 ·cases h
theorem aq5{tt:TypeId}{x y:Operand}(h:dS (TI.of P) θ up k d t H (.makeSlice tt x y) K=some b):rX P H t k (op' d (.makeSlice tt x y) ty ps aft gd) K b:=by
 simp only[dS]at h;split at h
 ·rename_i et sz by_ he;have he:mX P tt=some (et,sz,by_):=he;split at h
  ·rename_i e z hθ hz;have hz:lI P et=some z:=hz;obtain⟨k1,l,e1,h1,_⟩:=BA (H:=H) h;obtain⟨k2,c,e2,h2,_⟩:=BA (H:=H) h1;rcases bD h2 with⟨hc,hh⟩|⟨_,h2⟩
   ·simp only[qAa]at hc;obtain⟨⟨c1,c2⟩,c3,c4,c5⟩:=hc;have c1:=aCw c1;have c2:=aFJ c2;have c3:=qAj c3;have c4:=qAf c4;subst c1 c2 c3;obtain⟨xs,h3,h4⟩:=ob hh;cases e1.symm.trans e2;unfold mkz at h3;split at h3
    ·rename_i hm;cases h3;refine Hq (rd:=[k]) ?_ h4;simp only[aP,he,bZ,e1,hz];rw[if_pos ⟨xM c5,hm.1,qBD _,by have:=Int.mul_le_mul (Int.ofNat_le.2 c4) hm.2 hm.1 (by omega);omega,by omega,rfl⟩];simp only[Cj,wrH,jW];rw[YC (G9 c5)];simp only[GU,gV,qBv,qCs];rfl
    ·cases h3
   rcases bD h2 with⟨hc,hh⟩|⟨_,h⟩
   ·simp only[qAa]at hc;obtain⟨c1,c2,c3,c4⟩:=hc;have c1:=aGk c1;have c2:=Qm c2;have c3:=qAj c3;subst c1;subst c2;obtain⟨_,h3,h4⟩:=ob hh;unfold mkS at h3;split at h3
    ·rename_i hm;refine Hq (rd:=[k]) ?_ h4;simp only[aP,he,bZ,e1,e2,hz];rw[if_pos ⟨xM c4,by omega,hm.1,hm.2.1,hm.2.2,c3⟩];simp only[Cj,wrH,jW];rw[YC (G9 c4)];rfl
    ·cases h3
   ·cases h
  ·cases h
 ·cases h
theorem az6{args:Array Operand}{ats:Array TypeId}(h:dS (TI.of P) θ up k d t H (.call {callee:=.builtin .append,args,argTypes:=ats}) K=some b):rX P H t k (op' d (.call {callee:=.builtin .append,args,argTypes:=ats}) ty ps aft gd) K b:=by
 simp only[dS]at h;split at h
 ·rename_i x y t1 t2 ha hat;split at h
  ·rename_i et sz by_ he;have he:mX P t1=some (et,sz,by_):=he;split at h
   ·rename_i e hθ;rcases bD h with⟨hc,hh⟩|⟨_,h⟩
    ·clear h;simp only[qAa]at hc;obtain⟨c2,c7,c3⟩:=hc;have c2:=Qm c2;subst c2;have c7:aP.isSliceT P t2=true:=c7;obtain⟨ys,h1,_,h2⟩:=aDE (H:=H) (t:=.l e) (fun e h=>by cases h) hh;obtain⟨tg,hy⟩:∃tg,av H (gq t y)=.slice (ys.map e.enc) tg:=by
      simp only[kr]at h2;generalize av H (gq t y)=a at h2;cases h2
      ·grind
      grind
     split at h1
     ·rename_i hx;obtain⟨r,h3,h4⟩:=ob h1;obtain⟨q1,q2,rfl⟩:=Qq h3;simp only[qAA,qAL]at q1 q2;refine Hq (rd:=[k]) ?_ h4;simp only[aP,aC,ha,hat,he,c7,bZ,hx,hy,av];rw[if_pos ⟨xM c3,trivial,by rw[qAi];exact q1,by rw[qAi];exact q2,F7 (NS e) _⟩];simp only[Cj,GU,gV,jW,wrH,Ym (G9 c3),qAo,qAi]
     ·rename_i l hx;split at h1
      ·rename_i e' xs hl;obtain⟨xs',e1,g1⟩:=kS h1;clear h1;cases e1;obtain⟨r,h3,h4⟩:=ob g1;obtain⟨q1,q2,rfl⟩:=Qq h3;have hlk:l≠k:=fun e=>by subst e;rw[hl]at c3;cases c3
       refine Hq (rd:=[l,k]) ?_ h4;have hx2:av H (TV.own l)=.slice (List.map e.enc xs') (.tip l e.sz):=by simp only[av,hl,gD]
       have hσ:obj? (aB H) l=.tip (xs'.length*e.sz):=by rw[kV,hl];rfl
       simp only[aP,aC,ha,hat,he,c7,bZ,hx,hy,hx2,hσ];rw[if_pos ⟨xM c3,by rw[qAi],trivial,by simp only[qAi];exact q1,by simp only[qAi];exact q2,F7 (NS e) _,F7 (NS e) _⟩];simp only[Cj,GU,wrH,hl,gV,jW];rw[Ym (by rw[qAT];exact G9 c3)];simp only[qBj,qAe,qAi]
      ·cases h1
     ·rename_i l z hx;split at h1
      ·rename_i e' xs hl;rcases bD h1 with⟨hz,h1⟩|⟨_,h1⟩
       ·have hz:z=e.sz:=qAj hz;subst hz;obtain⟨xs',e1,g1⟩:=kS h1;clear h1;cases e1;obtain⟨r,h3,h4⟩:=ob g1;obtain⟨q1,q2,rfl⟩:=Qq h3;refine Hq (rd:=[l,k]) ?_ h4;have hx2:av H (TV.psl l e.sz none)=.psl l e.sz xs'.length:=by simp only[av,hl,eY]
        have hσ:obj? (aB H) l=.arr e.sz (xs'.map e.enc):=by rw[kV,hl];rfl
        simp only[aP,aC,ha,hat,he,c7,bZ,hx,hy,hx2,hσ];rw[if_pos ⟨xM c3,trivial,trivial,by simp only[qAi];exact qAd _,by simp only[qAi];exact q1,by simp only[qAi];exact q2,F7 (NS e) _,F7 (NS e) _⟩];simp only[Cj,GU,wrH,hl,gV,jW];rw[YC (by rw[qAT];exact G9 c3)];simp only[qBj,qAe,qAi,qCg (qBm (show(List.map e.enc xs').length=xs'.length from qAi e.enc))]
       ·cases h1
      ·cases h1
     ·cases h1
    ·cases h
   ·cases h
  ·cases h
 ·cases h
theorem azh{tt:TypeId}{m key:Operand}{ok:Bool}(h:dS (TI.of P) θ up k d t H (.lookup tt m key ok) K=some b):rX P H t k (op' d (.lookup tt m key ok) ty ps aft gd) K b:=by
 simp only[dS]at h;split at h
 ·rename_i et l s hm hmm hkk;have hm:uK P tt=some et:=hm;split at h
  ·rename_i e xs z hl hz;have hz:NP P et=some z:=hz;rcases bD h with⟨ho,h⟩|⟨_,h⟩
   ·have key:∀v,av H v=ED ((dn xs s).map e.one) ok z→K [l] (fP d v)=some b→rX P H t k (op' d (.lookup tt m key ok) ty ps aft gd) K b:=fun v hv h=>by
     refine Hq (rd:=[l]) (ws:=fP d v) ?_ h;simp only[aP,aC,hm,bZ,hmm,hkk,av,kr,kV,hl,gV,hz,jW,hv,ahs]
    unfold mel at h;split at h
    ·rename_i y hy;cases ok
     ·exact key (e.seg y) (by rw[hy];exact apM H e y) h
     ·exact key (.tup [e.seg y,.lf .b true]) (by rw[hy];simp only[av,aU,apM,qAx,ED,kr]) h
    ·rename_i hy;cases ok
     ·exact key (acg z) (by rw[hy];simp only[qBS,ED,avC (H:=H) ho]) h
     ·exact key (.tup [acg z,.lf .b false]) (by rw[hy];simp only[av,aU,avC (H:=H) ho,qBS,ED,kr]) h
   ·cases h
  ·cases h
 ·cases h
theorem aEi{e:ET}{x:e.D}{xs:List AV}{a:AV}(h1:eO a=some xs)(h2:Cvs true (e.enc x) xs)(h3:e.sc=true→xs=[a]):uN a=e.one x:=by
 have hx:=arb h2;have hl:xs.length=e.sz:=by rw[←h2.len,LW]
 have key:e.sc=false→uN a=.agg (e.enc x):=fun hsc=>by
  have h2:2≤e.sz:=by cases e<;>first|(cases hsc;done)|(simp[ET.sz])
  cases a with
  |agg cs=>cases h1;simp only[uN,hx]
  |unk=>cases h1
  |tup cs=>cases h1
  |_=>cases h1;simp at hl;omega
 cases e with
 |i=>have:=h3 rfl;subst this;cases h2 with|cons g _=>cases g;rfl
 |u=>have:=h3 rfl;subst this;cases h2 with|cons g _=>cases g;rfl
 |s=>have:=h3 rfl;subst this;cases h2 with|cons g _=>cases g;rfl
 |b=>have:=h3 rfl;subst this;cases h2 with|cons g _=>cases g;rfl
 |vals=>have:=h3 rfl;subst this;cases h2 with|cons g _=>cases g<;>rfl
 |tms=>have:=h3 rfl;subst this;cases h2 with|cons g _=>cases g<;>rfl
 |_=>exact key rfl
theorem ap6{tt:TypeId}{m key x:Operand}(h:dS (TI.of P) θ up k d t H (.mapUpdate tt m key x) K=some b):rX P H t k (op' d (.mapUpdate tt m key x) ty ps aft gd) K b:=by
 simp only[dS]at h;split at h
 ·rename_i et l s hm hmm hkk;have hm:uK P tt=some et:=hm;split at h
  ·rename_i e xs hl;obtain⟨y,cs,h1,h2,h3,h4⟩:=anV h;obtain⟨r,h5,h6⟩:=ob h1;unfold yG at h5;split at h5
   ·rename_i hlt;cases h5;refine Hq (rd:=[l]) ?_ h6;have hs:=aEi h2 h3 h4;simp only[aP,hm,bZ,hmm,hkk,av,kr,kV,hl,gV,qAi,hlt,Cj,jW,hs,alk];rfl
   ·cases h5
  ·cases h
 ·cases h
end
end
end Abs
end Go.Proofs.YthgdaonechbgmaaGreat
