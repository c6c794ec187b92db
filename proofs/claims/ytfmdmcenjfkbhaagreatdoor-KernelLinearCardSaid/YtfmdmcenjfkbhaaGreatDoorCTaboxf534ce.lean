/-
  The records of the types that walks ask for. Conditions: none.
-/
import Derived.Test.YtfmdmcenjfkbhaaGreatDoorProg
import Derived.KernelRfl
import Derived.Test.YtfmdmcenjfkbhaaGreatDoorCData2ox602d87
set_option linter.all false
namespace Go.Proofs.YtfmdmcenjfkbhaaGreatDoor
namespace Abs
section
open Go Go.Proofs
def ti2:TI:=⟨some 1,some false,false,false,false,false,false,some .i64,.no,[],[],some ([.int .i64 0]),some (.int .i64 0),none,none,none⟩
def ti3:TI:=⟨some 1,some false,false,false,false,false,false,some .i64,.no,[],[],some ([.int .i64 0]),some (.int .i64 0),none,none,none⟩
def ti4:TI:=⟨some 1,some false,false,true,false,false,false,none,.no,[],[],some ([.bool false]),some (.bool false),none,none,none⟩
def ti5:TI:=⟨some 1,some false,false,false,false,false,false,some .u8,.no,[],[],some ([.int .u8 0]),some (.int .u8 0),none,none,none⟩
def ti9:TI:=⟨some 1,some false,false,false,true,false,false,none,.no,[],[],some ([.str []]),some (.str []),none,none,none⟩
def ah3:TI:=⟨some 1,some false,false,false,false,false,false,none,.no,[],[],some ([.unk]),some (.unk),none,none,none⟩
def aiV:TI:=⟨some 1,some false,false,false,false,false,false,some .i32,.no,[],[],some ([.int .i32 0]),some (.int .i32 0),none,none,none⟩
def ajm:TI:=⟨some 1,some false,false,false,false,false,true,none,.sl (some 3),[],[],some ([.slice [] .nils]),some (.slice [] .nils),some 3,some (24,3,48),none⟩
def TIs(n:Nat)(s:Bool)(i:IxT)(f:List (Option (Nat×TypeId)))(p:List (Option (Nat×Nat)))(l:List AV):TI:=⟨some n,some true,false,false,false,s,false,none,i,f,p,some l,some (.agg l),none,none,none⟩
def TIc(a b c d:Bool)(k:Option IntKind)(i:IxT)(z:AV)(x:Option Nat)(y:Option (TypeId×Nat×Nat))(s:Option TypeId):TI:=⟨some 1,some false,a,b,c,false,d,k,i,[],[],some [z],some z,x,y,s⟩
def ajo:=TIs 3 true .no [some (0,3),some (1,9),some (2,22)] [some (0,1),some (1,1),some (2,1)] ([.int .i64 0,.str [],.slice [] .nils])
def ah7:TI:=⟨some 1,some false,false,false,false,false,true,none,.sl (some 7),[],[],some ([.slice [] .nils]),some (.slice [] .nils),some 7,some (27,7,104),none⟩
def ain:=TIs 7 true .no [some (0,3),some (1,9),some (2,3),some (3,24),some (6,25)] [some (0,1),some (1,1),some (2,1),some (3,3),some (6,1)] ([.int .i64 0,.str [],.int .i64 0,.int .i64 0,.str [],.slice [] .nils,.slice [] .nils])
def ajn:TI:=⟨some 1,some false,false,false,false,false,true,none,.sl (some 1),[],[],some ([.slice [] .nils]),some (.slice [] .nils),some 1,some (3,1,8),none⟩
def aiA:TI:=⟨some 1,some false,false,false,false,false,false,some .i64,.no,[],[],some ([.int .i64 0]),some (.int .i64 0),none,none,none⟩
def ais:TI:=⟨some 1,some false,false,false,false,false,false,none,.no,[],[],some ([.nilFunc]),some (.nilFunc),none,none,none⟩
def aiR:=TIs 3 true .no [some (0,25),some (1,28),some (2,3)] [some (0,1),some (1,1),some (2,1)] ([.slice [] .nils,.slice [] .nils,.int .i64 0])
def ait:=TIs 3 true .no [some (0,25),some (1,28),some (2,3)] [some (0,1),some (1,1),some (2,1)] ([.slice [] .nils,.slice [] .nils,.int .i64 0])
def ah9:TI:=⟨some 1,some false,false,false,false,false,false,none,.no,[],[],some ([.nilFunc]),some (.nilFunc),none,none,none⟩
def aiH:=TIs 4 true .no [some (0,9),some (1,24)] [some (0,1),some (1,3)] ([.str [],.int .i64 0,.str [],.slice [] .nils])
def aiK:TI:=⟨some 1,some false,false,false,false,false,true,none,.sl (some 4),[],[],some ([.slice [] .nils]),some (.slice [] .nils),some 4,some (50,4,64),none⟩
def aiB:TI:=⟨some 1,some false,false,false,false,false,true,none,.sl (some 2),[],[],some ([.slice [] .nils]),some (.slice [] .nils),some 2,some (106,2,40),none⟩
def ah5:=TIs 2 true .no [some (0,52),some (1,51)] [some (0,1),some (1,1)] ([.slice [] .nils,.slice [] .nils])
def ajj:=TIs 10 true .no [some (0,54),some (2,25),some (3,27)] [some (0,2),some (2,1),some (3,7)] ([.slice [] .nils,.slice [] .nils,.slice [] .nils,.int .i64 0,.str [],.int .i64 0,.int .i64 0,.str [],.slice [] .nils,.slice [] .nils])
def aib:TI:=⟨some 1,some false,false,false,false,false,true,none,.sl (some 10),[],[],some ([.slice [] .nils]),some (.slice [] .nils),some 10,some (57,10,176),none⟩
def aiz:=TIs 6 true .no [some (0,3),some (1,3),some (2,9),some (3,28),some (4,25),some (5,28)] [some (0,1),some (1,1),some (2,1),some (3,1),some (4,1),some (5,1)] ([.int .i64 0,.int .i64 0,.str [],.slice [] .nils,.slice [] .nils,.slice [] .nils])
def aiM:=TIs 3 true .no [some (0,3),some (1,3),some (2,3)] [some (0,1),some (1,1),some (2,1)] ([.int .i64 0,.int .i64 0,.int .i64 0])
def aiw:TI:=⟨some 1,some false,false,false,false,false,false,none,.no,[],[],some ([.nilFunc]),some (.nilFunc),none,none,none⟩
def ai9:TI:=⟨some 1,some false,true,false,false,false,false,none,.no,[],[],some ([.nilp]),some (.nilp),none,none,none⟩
def aiG:TI:=⟨some 1,some false,false,false,false,false,true,none,.sl (some 1),[],[],some ([.slice [] .nils]),some (.slice [] .nils),some 1,some (9,1,16),none⟩
def aio:=TIs 2 true .no [some (0,84),some (1,84)] [some (0,1),some (1,1)] ([.slice [] .nils,.slice [] .nils])
def ai2:=TIs 3 true .no [some (0,3),some (1,9),some (2,3)] [some (0,1),some (1,1),some (2,1)] ([.int .i64 0,.str [],.int .i64 0])
def aix:=TIs 7 true .no [some (0,9),some (1,90),some (4,3),some (5,3),some (6,29)] [some (0,1),some (1,3),some (4,1),some (5,1),some (6,1)] ([.str [],.int .i64 0,.str [],.int .i64 0,.int .i64 0,.int .i64 0,.int .i64 0])
def aiF:TI:=⟨some 1,some false,true,false,false,false,false,none,.no,[],[],some ([.nilp]),some (.nilp),none,none,none⟩
def ags:=TIs 17 true .no [some (0,57),some (10,62),some (16,58)] [some (0,10),some (10,6),some (16,1)] ([.slice [] .nils,.slice [] .nils,.slice [] .nils,.int .i64 0,.str [],.int .i64 0,.int .i64 0,.str [],.slice [] .nils,.slice [] .nils,.int .i64 0,.int .i64 0,.str [],.slice [] .nils,.slice [] .nils,.slice [] .nils,.slice [] .nils])
def agY:TI:=⟨some 1,some false,false,false,false,false,false,none,.no,[],[],some ([.nilFunc]),some (.nilFunc),none,none,none⟩
def agJ:=TIs 28 false (.arr 28 (some 1)) [] [] (List.replicate 28 (.nilFunc))
def agF:=TIs 2 true .no [some (0,9),some (1,84)] [some (0,1),some (1,1)] ([.str [],.slice [] .nils])
def afZ:TI:=⟨some 1,some false,false,false,false,false,false,none,.no,[],[],some ([.unk]),some (.unk),none,none,some 4⟩
def af9:TI:=⟨some 1,some false,true,false,false,false,false,none,.no,[],[],some ([.nilp]),some (.nilp),none,none,none⟩
def afY:TI:=⟨some 1,some false,false,false,false,false,false,none,.no,[],[],some ([.unk]),some (.unk),none,none,some 24⟩
def ahc:TI:=⟨some 1,some false,false,false,false,false,false,none,.no,[],[],some ([.nilFunc]),some (.nilFunc),none,none,none⟩
def agk:=TIs 57 false (.arr 57 (some 1)) [] [] (List.replicate 57 (.nilFunc))
def ag1:=TIs 60 true .no [some (0,148),some (1,143),some (2,151),some (59,28)] [some (0,1),some (1,1),some (2,57),some (59,1)] (([.unk,.unk]++List.replicate 57 .nilFunc++[.slice [] .nils]))
def agc:TI:=⟨some 1,some false,false,false,false,false,true,none,.sl (some 16),[],[],some ([.slice [] .nils]),some (.slice [] .nils),some 16,some (173,16,216),none⟩
def ag5:=TIs 16 true .no [some (0,27),some (7,27),some (14,4),some (15,4)] [some (0,7),some (7,7),some (14,1),some (15,1)] ([.int .i64 0,.str [],.int .i64 0,.int .i64 0,.str [],.slice [] .nils,.slice [] .nils,.int .i64 0,.str [],.int .i64 0,.int .i64 0,.str [],.slice [] .nils,.slice [] .nils,.bool false,.bool false])
def af8:TI:=⟨some 1,some false,true,false,false,false,false,none,.no,[],[],some ([.nilp]),some (.nilp),none,none,none⟩
def agt:TI:=⟨some 1,some false,false,false,false,false,false,none,.no,[],[],some ([.nilFunc]),some (.nilFunc),none,none,none⟩
def ag6:=TIs 5 true .no [some (0,9),some (1,24),some (4,190)] [some (0,1),some (1,3),some (4,1)] ([.str [],.int .i64 0,.str [],.slice [] .nils,.nilp])
def afT:=TIs 8 true .no [some (0,9),some (1,27)] [some (0,1),some (1,7)] ([.str [],.int .i64 0,.str [],.int .i64 0,.int .i64 0,.str [],.slice [] .nils,.slice [] .nils])
def agz:TI:=⟨some 1,some false,false,false,false,false,true,none,.sl (some 8),[],[],some ([.slice [] .nils]),some (.slice [] .nils),some 8,some (206,8,120),none⟩
def agK:TI:=⟨some 1,some false,false,false,false,false,false,none,.no,[],[],some ([.nilFunc]),some (.nilFunc),none,none,none⟩
def agO:TI:=⟨some 1,some false,false,false,false,false,false,none,.no,[],[],some ([.nilFunc]),some (.nilFunc),none,none,none⟩
def af7:=TIs 256 false (.arr 256 (some 1)) [] [] (List.replicate 256 (.bool false))
def ahp:TI:=⟨some 1,some false,false,false,false,false,false,none,.no,[],[],some ([.unk]),some (.unk),none,none,some 3⟩
def agy:TI:=⟨some 1,some false,false,false,false,false,false,none,.no,[],[],some ([.unk]),some (.unk),none,none,some 27⟩
def agC:=TIs 17 true .no [some (0,27),some (7,27),some (14,143),some (15,143),some (16,3)] [some (0,7),some (7,7),some (14,1),some (15,1),some (16,1)] ([.int .i64 0,.str [],.int .i64 0,.int .i64 0,.str [],.slice [] .nils,.slice [] .nils,.int .i64 0,.str [],.int .i64 0,.int .i64 0,.str [],.slice [] .nils,.slice [] .nils,.unk,.unk,.int .i64 0])
def ahn:=TIs 22 true .no [some (0,27),some (7,27),some (14,27),some (21,35)] [some (0,7),some (7,7),some (14,7),some (21,1)] ([.int .i64 0,.str [],.int .i64 0,.int .i64 0,.str [],.slice [] .nils,.slice [] .nils,.int .i64 0,.str [],.int .i64 0,.int .i64 0,.str [],.slice [] .nils,.slice [] .nils,.int .i64 0,.str [],.int .i64 0,.int .i64 0,.str [],.slice [] .nils,.slice [] .nils,.nilFunc])
def aga:=TIs 22 false (.arr 22 (some 1)) [] [] (List.replicate 22 (.int .i64 0))
def afU:TI:=⟨some 1,some false,false,false,false,false,false,some .u64,.no,[],[],some ([.int .u64 0]),some (.int .u64 0),none,none,none⟩
def agW:TI:=⟨some 1,some false,false,false,false,false,false,none,.no,[],[],some ([.nilFunc]),some (.nilFunc),none,none,none⟩
def afV:=TIs 21 false (.arr 21 (some 1)) [] [] (List.replicate 21 (.int .i64 0))
def agM:=TIs 5 false (.arr 5 (some 1)) [] [] ([.int .i64 0,.int .i64 0,.int .i64 0,.int .i64 0,.int .i64 0])
def agR:TI:=⟨some 1,some false,false,false,false,false,false,some .i64,.no,[],[],some ([.int .i64 0]),some (.int .i64 0),none,none,none⟩
def af0:TI:=⟨some 1,some false,false,false,false,false,false,some .u32,.no,[],[],some ([.int .u32 0]),some (.int .u32 0),none,none,none⟩
def agN:TI:=⟨some 1,some false,false,false,false,false,false,some .u64,.no,[],[],some ([.int .u64 0]),some (.int .u64 0),none,none,none⟩
def aho:=TIs 24 false (.arr 24 (some 1)) [] [] (List.replicate 24 (.int .u8 0))
def ahf:TI:=⟨some 1,some false,false,false,false,false,true,none,.sl (some 1),[],[],some ([.slice [] .nils]),some (.slice [] .nils),some 1,some (5,1,1),none⟩
def afW:TI:=⟨some 1,some false,false,false,false,false,false,some .u64,.no,[],[],some ([.int .u64 0]),some (.int .u64 0),none,none,none⟩
def ahr:=TIs 20 false (.arr 20 (some 1)) [] [] (List.replicate 20 (.int .u64 0))
def ahu:=TIs 65 false (.arr 65 (some 1)) [] [] (List.replicate 65 (.int .u8 0))
def aht:=TIs 256 false (.arr 256 (some 1)) [] [] (List.replicate 256 (.int .u8 0))
def agV:=TIs 2 true .no [some (0,5),some (1,5)] [some (0,1),some (1,1)] ([.int .u8 0,.int .u8 0])
def ahj:=TIs 32 false (.arr 16 (some 2)) [] [] (List.replicate 32 (.int .u8 0))
def agl:=TIs 32 false (.arr 32 (some 1)) [] [] (List.replicate 32 (.int .u8 0))
def agX:=TIs 64 false (.arr 64 (some 1)) [] [] (List.replicate 64 (.int .u8 0))
def tab:Tr:=(.node (.node (.node (.node (.node (.node (.node .nil 2 ti2 .nil) 3 ti3 .nil) 4 ti4 (.node .nil 5 ti5 .nil)) 9 ti9 (.node (.node (.node .nil 20 ah3 .nil) 21 aiV .nil) 22 ajm (.node .nil 24 ajo .nil))) 25 ah7 (.node (.node (.node (.node .nil 27 ain .nil) 28 ajn .nil) 29 aiA (.node .nil 35 ais .nil)) 38 aiR (.node (.node .nil 43 ait .nil) 47 ah9 (.node .nil 50 aiH .nil)))) 51 aiK (.node (.node (.node (.node (.node .nil 52 aiB .nil) 54 ah5 .nil) 57 ajj (.node .nil 58 aib .nil)) 62 aiz (.node (.node (.node .nil 64 aiM .nil) 69 aiw .nil) 79 ai9 (.node .nil 84 aiG .nil))) 86 aio (.node (.node (.node (.node .nil 90 ai2 .nil) 93 aix .nil) 99 aiF (.node .nil 101 ags .nil)) 102 agY (.node (.node .nil 103 agJ .nil) 106 agF (.node .nil 143 afZ .nil))))) 144 af9 (.node (.node (.node (.node (.node (.node .nil 148 afY .nil) 150 ahc .nil) 151 agk (.node .nil 153 ag1 .nil)) 171 agc (.node (.node (.node .nil 173 ag5 .nil) 190 af8 .nil) 193 agt (.node .nil 195 ag6 .nil))) 206 afT (.node (.node (.node (.node .nil 207 agz .nil) 225 agK .nil) 229 agO (.node .nil 235 af7 .nil)) 241 ahp (.node (.node .nil 246 agy .nil) 249 agC (.node .nil 254 ahn .nil)))) 258 aga (.node (.node (.node (.node (.node .nil 264 afU .nil) 271 agW .nil) 275 afV (.node .nil 277 agM .nil)) 284 agR (.node (.node .nil 291 af0 .nil) 293 agN (.node .nil 295 aho .nil))) 297 ahf (.node (.node (.node (.node .nil 303 afW .nil) 313 ahr .nil) 314 ahu (.node .nil 317 aht .nil)) 319 agV (.node (.node .nil 320 ahj .nil) 321 agl (.node .nil 322 agX .nil))))))
theorem aee:tab.keys.map (TI.of Tryz.prog)=tab.vals:=by kernel_rfl
noncomputable def τ(t:Nat):TI:=tab.look (TI.of Tryz.prog) t
theorem jr:τ=TI.of Tryz.prog:=ae7 aee
theorem zQ:Tryz.prog.follows .mixedOrders=true:=by kernel_rfl
end
section
open Go
def rE(u:U):List AV:=nX (.lf u.t u.x) (eP u.t u.x)
def uh:List U→List AV
 |[]=>[]
 |u::us=>rE u++uh us
theorem Ot(H:List TObj):∀us:List U,aO H (us.map fun u=>.lf u.t u.x)=uh us
 |[]=>rfl
 |u::us=>by simp only[qAz,aO,uh,Ot H us,rE,av]
theorem vg:∀(e:ET) (x:e.D),(e.enc x).length=e.sz
 | .i,_=>rfl| .u,_=>rfl| .s,_=>rfl| .b,_=>rfl| .car,_=>rfl| .dec,_=>rfl
 | .ty,x=>by simp only[ET.enc,gI];rfl
 | .tm,x=>by simp only[ET.enc,kJ];rfl
 | .env,_=>rfl
 | .val,x=>by simp only[ET.enc,gY];rfl
 | .bnd,x=>by have:=gY x.v;simp only[ET.enc,this];rfl
 | .vals,_=>rfl| .tms,_=>rfl
theorem Yx:∀(e:ET) (x:e.D),uh (bR e.cs (e.un x))=e.enc x
 | .i,_=>rfl| .u,_=>rfl| .s,_=>rfl| .b,_=>rfl| .car,_=>rfl
 | .dec,x=>by
  have:=gI x.ty;simp only[ET.enc,ET.cs,ET.un,bR,uh,rE,nX,eP,gM,this,qAH,qAC]
 | .ty,x=>by simp only[ET.enc,gI];rfl
 | .tm,x=>by
  have:=gI x.ty;simp only[ET.enc,ET.cs,ET.un,bR,uh,rE,nX,eP,kJ,this,qAH,qAC]
 | .env,_=>rfl
 | .val,x=>by simp only[ET.enc,gY];rfl
 | .bnd,x=>by
  have:=gY x.v;simp only[ET.enc,ET.cs,ET.un,bR,uh,rE,nX,eP,this,qAH,qAC]
 | .vals,_=>rfl| .tms,_=>rfl
theorem agE:∀(e:ET) (y:eG e.cs),e.un (e.mk y)=y
 | .i,_=>rfl| .u,_=>rfl| .s,_=>rfl| .b,_=>rfl| .car,_=>rfl| .dec,_=>rfl| .ty,_=>rfl| .tm,_=>rfl| .env,_=>rfl| .val,_=>rfl| .bnd,_=>rfl| .vals,_=>rfl| .tms,_=>rfl
theorem aeW(e:ET)(y:eG e.cs):uh (bR e.cs y)=e.enc (e.mk y):=by rw[←Yx,agE]
theorem sH(H:List TObj):∀a b:List TV,aO H (a++b)=aO H a++aO H b
 |[],_=>rfl
 |v::a,b=>by simp only[qAH,aO,sH H a b,qAr]
theorem kL(H:List TObj):∀a:List TV,aI H a=a.map (av H)
 |[]=>rfl
 |v::a=>by simp only[aI,qAz,kL H a]
theorem CG(H:List TObj)(e:ET)(x:e.D):aO H (comps e x)=e.enc x:=by
 unfold comps;rw[Ot,Yx]
def one(v:TV):Prop:=∀a,nX v a=[a]
theorem j6(v:TV):one v∨∃e x,v=.lf (.t e) x:=by
 cases v with
 |lf t x=>cases t<;>first|exact .inr ⟨_,_,rfl⟩|exact .inl fun _=>rfl
 |_=>exact .inl fun _=>rfl
theorem NZ(H:List TObj)(v:TV):(nX v (av H v)).length=width v:=by
 rcases j6 v with h|⟨e,x,rfl⟩
 ·rw[h];cases v with
  |lf t x=>cases t<;>first|rfl|(have:=h .unk;simp only[nX]at this;rename_i e;have h2:=vg e x;rw[this]at h2;simp only[width];exact h2)
  |_=>rfl
 ·exact vg e x
theorem gN(H:List TObj):∀vs:List TV,(aO H vs).length=widths vs
 |[]=>rfl
 |v::vs=>by simp only[aO,qAj,NZ,gN H vs,widths]
theorem aM{γ:Type}{b:Bool}{X Y:Option γ}{r:γ}(h:cond b X Y=some r):(b=true∧X=some r)∨(b=false∧Y=some r):=by grind
section
variable {γ:Type}{b:γ}{H:List TObj}
theorem ny:∀(f:Nat) (cs:List TV) (n:Nat) (K:List TV→List TV→Option γ),splitK f cs n K=some b→∃a r,aO H cs=aO H a++aO H r∧(aO H a).length=n∧K a r=some b:=by
 intro f
 induction f with
 |zero=>intro cs n K h;cases h
 |succ f ih=>
  intro cs n K h;unfold splitK at h;cases n with
  |zero=>exact⟨[],cs,rfl,rfl,h⟩
  |succ m=>
   cases cs with
   |nil=>cases h
   |cons c r=>
    rcases aM h with⟨hw,h⟩|⟨_,h⟩
    ·obtain⟨a,r',h1,h2,h3⟩:=ih _ _ _ h;have hw:=qAf hw;refine⟨c::a,r',?_,?_,h3⟩
     ·simp only[aO,h1,qAr]
     ·simp only[aO,qAj,NZ];omega
    ·split at h
     ·rename_i e x;obtain⟨a,r',h1,h2,h3⟩:=ih _ _ _ h;refine⟨a,r',?_,h2,h3⟩;rw[←h1,sH,CG];rfl
     ·cases h
theorem abh:∀(f:Nat) (cs:List TV) (K:TV→Option γ),Pz f cs K=some b→∃v r,one v∧aO H cs=av H v::r∧K v=some b:=by
 intro f
 induction f with
 |zero=>intro cs K h;cases h
 |succ f ih=>
  intro cs K h;unfold Pz at h;cases cs with
  |nil=>cases h
  |cons c r=>
   simp only at h;split at h
   ·rename_i e x;obtain⟨v,r',h1,h2,h3⟩:=ih _ _ h;refine⟨v,r'++aO H r,h1,?_,h3⟩;rw[CG]at h2;simp only[aO,nX,h2,qAH]
   ·rename_i hne;rcases j6 c with h1|⟨e,x,rfl⟩
    ·exact⟨c,aO H r,h1,by simp only[aO,h1 (av H c),qAH,qAC],h⟩
    grind
theorem Nr(c:List TV):av H (FX c)=.agg (aO H c):=by
 unfold FX;split
 ·rename_i e x;simp only[av,eP,aO,nX,qAt]
 ·rfl
theorem EL{P:Program}{t off:Nat}{cs:List TV}{K:TV→Option γ}(h:Kn (TI.of P) t off cs K=some b):∃v,eH P t ((aO H cs).drop off)=some (av H v)∧K v=some b:=by
 unfold Kn at h;split at h
 ·rename_i hagg;have hagg:zV P t=some true:=hagg;split at h
  ·rename_i n hn;have hn:sizeT P t=some n:=hn;obtain⟨a,r,h1,h2,h3⟩:=ny (H:=H) _ _ _ _ h;obtain⟨c,d,h4,h5,h6⟩:=ny (H:=H) _ _ _ _ h3;refine⟨FX c,?_,h6⟩;have e1:(aO H cs).drop off=aO H c++aO H d:=by rw[h1,←h2,qCr,h4]
   simp only[eH,e1,qAj,h5,Nr]
   grind
  ·cases h
 ·rename_i hagg;have hagg:zV P t=some false:=hagg;obtain⟨a,r,h1,h2,h3⟩:=ny (H:=H) _ _ _ _ h;obtain⟨v,r',_,h4,h5⟩:=abh (H:=H) _ _ _ h3;refine⟨v,?_,h5⟩;have e1:(aO H cs).drop off=aO H r:=by rw[h1,←h2,qCr]
  simp only[eH,hagg,e1,h4]
 ·cases h
theorem su{v:TV}{cs:List TV}(h:rC H v=some cs):bH (av H v)=some (aO H cs):=by
 cases v with
 |lf t x=>cases t<;>first|(cases h;rfl)|(cases h;simp only[av,eP,bH,aO,nX,qAt])|cases h
 |agg c=>cases h;rfl
 |unk=>cases h
 |tup c=>cases h
 |nat n=>cases h;rfl
 |own l=>
  simp only[rC]at h;split at h
  ·rename_i hl;cases h;simp only[av,hl,bV,aO,nX,bH,qAt]
  ·rename_i hl;cases h;simp only[av,hl,bV,aO,nX,bH,qAt]
  ·cases h
 |psl l z c=>
  cases c with
  |some n=>cases h;rfl
  |none=>
   simp only[rC]at h;split at h
   ·rename_i hl;cases h;simp only[av,hl,bI,aO,nX,bH,qAt]
   ·rename_i hl;cases h;simp only[av,hl,bI,aO,nX,bH,qAt]
   ·cases h
 |_=>cases h;rfl
inductive Cv:Bool→AV→AV→Prop where
 |same (w:Bool) (a:AV):Cv w a a
 |share (es:List (List AV)) (t:Tag):Cv true (.slice es .shared) (.slice es t)
 |nilF:Cv true (.flist []) .nilp
inductive Cvs(w:Bool):List AV→List AV→Prop where
 |nil:Cvs w [] []
 |cons {x y:AV} {xs ys:List AV}:Cv w x y→Cvs w xs ys→Cvs w (x::xs) (y::ys)
theorem Cvs.refl(w:Bool):∀xs,Cvs w xs xs
 |[]=>.nil
 |x::xs=>.cons (.same w x) (Cvs.refl w xs)
theorem Cvs.app{w:Bool}{a b c d:List AV}(h:Cvs w a c)(k:Cvs w b d):Cvs w (a++b) (c++d):=by
 induction h with
 |nil=>exact k
 |cons h _ ih=>exact .cons h ih
theorem Cvs.len{w:Bool}{a c:List AV}(h:Cvs w a c):a.length=c.length:=by
 induction h with
 |nil=>rfl
 |cons _ _ ih=>simp[ih]
theorem eY{t:LT}{u:U}{K:t.D→Option γ}(h:fI t u K=some b):∃x,u=⟨t,x⟩∧K x=some b:=by
 unfold fI at h;split at h
 ·rename_i e _;obtain⟨t',x⟩:=u
  grind
 ·cases h
theorem yU:∀{ts:List LT} {us:List U} {K:eG ts→Option γ},ou ts us K=some b→∃y,bR ts y=us∧K y=some b
 |[],us,K,h=>by
  unfold ou at h;split at h
  ·exact⟨(),rfl,h⟩
  ·cases h
 |[t],us,K,h=>by
  unfold ou at h;split at h
  ·obtain⟨x,rfl,h2⟩:=eY h;exact⟨x,rfl,h2⟩
  ·cases h
 |t::t'::ts,us,K,h=>by
  unfold ou at h;split at h
  ·obtain⟨x,rfl,h2⟩:=eY h;obtain⟨y,hy,h3⟩:=yU h2;exact⟨(x,y),by simp only[bR,hy],h3⟩
  ·cases h
theorem II{w:Bool}{t:LT}{v:TV}{K:U→Option γ}(hv:one v)(h:kX H w t v K=some b):∃u,K u=some b∧Cv w (eP u.t u.x) (av H v)∧rE u=[eP u.t u.x]:=by
 unfold kX at h;split at h
 ·rename_i t' x;exact⟨⟨t',x⟩,h,.same _ _,hv _⟩
 ·rename_i n;exact⟨_,h,.same _ _,rfl⟩
 ·cases w
  ·cases h
  ·simp only[cond_true]at h;split at h
   ·exact⟨_,h,.share [] .nils,rfl⟩
   ·cases h
 ·cases w
  ·cases h
  ·simp only[cond_true]at h;split at h
   ·exact⟨_,h,.nilF,rfl⟩
   ·cases h
 ·rename_i l;cases w
  ·cases h
  ·simp only[cond_true]at h;split at h
   ·rename_i e xs hl;exact⟨_,h,by simp only[av,hl];exact .share _ _,rfl⟩
   ·rename_i e xs hl;exact⟨_,h,by simp only[av,hl];exact .share _ _,rfl⟩
   ·cases h
 ·cases h
theorem QD{w:Bool}{L:LT→List TV→(U→List TV→Option γ)→Option γ}
  (hL:∀t cs K,L t cs K=some b→∃u r xs,K u r=some b∧aO H cs=xs++aO H r∧Cvs w (rE u) xs):
  ∀(ts:List LT) (cs:List TV) (K:List U→List TV→Option γ),LG L ts cs K=some b→∃us r xs,K us r=some b∧aO H cs=xs++aO H r∧Cvs w (uh us) xs
 |[],cs,K,h=>⟨[],cs,[],h,rfl,.nil⟩
 |t::ts,cs,K,h=>by
  obtain⟨u,r,xs,h1,h2,h3⟩:=hL _ _ _ h;obtain⟨us,r',ys,h4,h5,h6⟩:=QD hL ts r _ h1;exact⟨u::us,r',xs++ys,h4,by rw[h2,h5,qAr],h3.app h6⟩
theorem Cr{w:Bool}:∀(f:Nat) (t:LT) (cs:List TV) (K:U→List TV→Option γ),Ap H w f t cs K=some b→∃u r xs,K u r=some b∧aO H cs=xs++aO H r∧Cvs w (rE u) xs:=by
 intro f
 induction f with
 |zero=>intro t cs K h;cases h
 |succ f ih=>
  intro t cs K h;have pk:∀(e:ET),(LG (Ap H w f) e.cs cs fun us r=>ou e.cs us fun y=>K ⟨.t e,e.mk y⟩ r)=some b→∃u r xs,K u r=some b∧aO H cs=xs++aO H r∧Cvs w (rE u) xs:=fun e h=>by
   obtain⟨us,r,xs,h1,h2,h3⟩:=QD ih _ _ _ h;obtain⟨y,rfl,h4⟩:=yU h1;refine⟨_,r,xs,h4,h2,?_⟩;rw[aeW]at h3;exact h3
  unfold Ap at h;cases cs with
  |nil=>cases h
  |cons c r=>
   simp only at h;split at h
   ·rename_i e' x;have ex:∀t,Ap H w f t (comps e' x++r) K=some b→∃u r_1 xs,K u r_1=some b∧aO H (.lf (.t e') x::r)=xs++aO H r_1∧Cvs w (rE u) xs:=fun t h=>by
     obtain⟨u,r',xs,h1,h2,h3⟩:=ih _ _ _ h;refine⟨u,r',xs,h1,?_,h3⟩;rw[sH,CG]at h2;simp only[aO];exact h2
    split at h
    ·exact⟨_,r,e'.enc x,h,by simp only[aO,nX],Cvs.refl _ _⟩
    grind
   ·rename_i hne;split at h
    ·grind
    ·rcases j6 c with h1|⟨e,x,rfl⟩
     ·obtain⟨u,h2,h3,h4⟩:=II h1 h;exact⟨u,r,[av H c],h2,by simp only[aO,h1 (av H c)],by rw[h4];exact .cons h3 .nil⟩
     grind
theorem ab2{t:LT}{v:TV}{K:t.D→Option γ}(ht:∀e,t≠ .t e)(h:(kX H true t v fun u=>fI t u K)=some b):∃x,K x=some b∧one v∧Cv true (eP t x) (av H v):=by
 rcases j6 v with h1|⟨e,x,rfl⟩
 ·obtain⟨u,h2,h3,_⟩:=II h1 h;obtain⟨x,rfl,h4⟩:=eY h2
  grind
 ·simp only[kX]at h;obtain⟨y,h5,_⟩:=eY h
  grind
theorem qc{e:ET}{v:TV}{K:e.D→Option γ}(hsc:e.sc=false)(h:sM H e v K=some b):∃x xs,K x=some b∧bH (av H v)=some xs∧Cvs true (e.enc x) xs∧(e.sc=true→xs=[av H v]):=by
 unfold sM at h;split at h
 ·rename_i cs hc;obtain⟨u,r,xs,h1,h2,h3⟩:=Cr _ _ _ _ h;split at h1
  ·obtain⟨x,rfl,h4⟩:=eY h1;refine⟨x,xs,h4,?_,h3,fun hs=>by rw[hsc]at hs;cases hs⟩;rw[su hc,h2];simp only[aO,qAt]
  ·cases h1
 ·cases h
theorem Md{t:LT}{v:TV}{K:t.D→Option γ}{e:ET}{c:t.D→e.D}(ht:∀e,t≠ .t e)(he:∀x,e.enc (c x)=[eP t x])(h2:∀x y,Cv true (eP t x) y→bH y=some [y])(h:(kX H true t v fun u=>fI t u K)=some b):
  ∃x xs,K x=some b∧bH (av H v)=some xs∧Cvs true (e.enc (c x)) xs∧(e.sc=true→xs=[av H v]):=by
 obtain⟨x,h1,_,h3⟩:=ab2 ht h;exact⟨x,[av H v],h1,h2 x _ h3,by rw[he];exact .cons h3 .nil,fun _=>rfl⟩
theorem OJ{e:ET}{v:TV}{K:e.D→Option γ}(h:Pw H e v K=some b):∃x xs,K x=some b∧bH (av H v)=some xs∧Cvs true (e.enc x) xs∧(e.sc=true→xs=[av H v]):=by
 cases e with
 |i=>exact Md (e:=.i) (c:=fun x=>x) (fun e h=>by cases h) (fun _=>rfl) (fun x y h=>by cases h;rfl) h
 |u=>exact Md (e:=.u) (c:=fun x=>x) (fun e h=>by cases h) (fun _=>rfl) (fun x y h=>by cases h;rfl) h
 |s=>exact Md (e:=.s) (c:=fun x=>x) (fun e h=>by cases h) (fun _=>rfl) (fun x y h=>by cases h;rfl) h
 |b=>exact Md (e:=.b) (c:=fun x=>x) (fun e h=>by cases h) (fun _=>rfl) (fun x y h=>by cases h;rfl) h
 |car=>exact qc rfl h
 |dec=>exact qc rfl h
 |ty=>exact qc rfl h
 |tm=>exact qc rfl h
 |env=>exact qc rfl h
 |val=>exact qc rfl h
 |bnd=>exact qc rfl h
 |vals=>exact Md (e:=.vals) (c:=fun x=>x) (fun e h=>by cases h) (fun _=>rfl) (fun x y h=>by cases h<;>rfl) h
 |tms=>exact Md (e:=.tms) (c:=fun x=>x) (fun e h=>by cases h) (fun _=>rfl) (fun x y h=>by cases h<;>rfl) h
theorem aaN{e:ET}{v:TV}{K:e.D→Option γ}(h:Pw H e v K=some b):∃x xs,K x=some b∧bH (av H v)=some xs∧Cvs true (e.enc x) xs:=by
 obtain⟨x,xs,h1,h2,h3,_⟩:=OJ h
 grind
theorem ac4:∀(e:ET) (x:e.D),(e.enc x).map shr=e.enc x
 | .i,_=>rfl| .u,_=>rfl| .s,_=>rfl| .b,_=>rfl| .car,_=>rfl
 | .dec,x=>rfl
 | .ty,x=>by simp only[ET.enc,gI];rfl
 | .tm,x=>by simp only[ET.enc,kJ];rfl
 | .env,_=>rfl
 | .val,x=>by simp only[ET.enc,gY];rfl
 | .bnd,x=>by have:=gY x.v;simp only[ET.enc,this];rfl
 | .vals,_=>rfl| .tms,_=>rfl
theorem ZY:∀(e:ET) (x:e.D),AV.flist []∉e.enc x
 | .i,_=>by simp[ET.enc,encI]| .u,_=>by simp[ET.enc,vS]| .s,_=>by simp[ET.enc,encS]| .b,_=>by simp[ET.enc]| .car,_=>by simp[ET.enc,gU]
 | .dec,x=>by simp[ET.enc,gM]
 | .ty,x=>by simp[ET.enc,gI]
 | .tm,x=>by simp[ET.enc,kJ]
 | .env,_=>by simp[ET.enc]
 | .val,x=>by simp[ET.enc,gY]
 | .bnd,x=>by simp[ET.enc,gY]
 | .vals,x=>by simp[ET.enc]
 | .tms,x=>by simp[ET.enc]
theorem adq{asz xs:List AV}(h:Cvs true asz xs)(h1:asz.map shr=asz)(h2:AV.flist []∉asz):xs.map shr=asz:=by
 induction h with
 |nil=>rfl
 |cons h _ ih=>
  simp only[qAz,List.cons.injEq,qAh,not_or]at h1 h2⊢;refine⟨?_,ih h1.2 h2.2⟩;cases h with
  |same=>exact h1.1
  |share=>rfl
  |nilF=>exact(h2.1 rfl).elim
theorem Rx{e:ET}{x:e.D}{xs:List AV}(h:Cvs true (e.enc x) xs):xs.map shr=e.enc x:=adq h (ac4 e x) (ZY e x)
theorem qZ:∀(e:ET) (x:e.D),aV e.sz (e.enc x)=true
 | .i,_=>rfl| .u,_=>rfl| .s,_=>rfl| .b,_=>rfl| .car,_=>rfl| .dec,_=>rfl
 | .ty,x=>by simp only[ET.enc,gI];rfl
 | .tm,x=>by simp only[ET.enc,kJ];rfl
 | .env,_=>rfl
 | .val,x=>by simp only[ET.enc,gY];rfl
 | .bnd,x=>by have:=gY x.v;simp only[ET.enc,this];rfl
 | .vals,_=>rfl| .tms,_=>rfl
theorem MV:∀(H:List TObj) (e:ET) (x:e.D),aO H [e.seg x]=e.enc x
 |_,.i,_=>rfl|_,.u,_=>rfl|_,.s,_=>rfl|_,.b,_=>rfl|_,.car,_=>rfl|_,.dec,_=>rfl|_,.ty,_=>by simp[aO,ET.seg,nX]|_,.tm,_=>by simp[aO,ET.seg,nX]|_,.env,_=>rfl|_,.val,_=>by simp[aO,ET.seg,nX]
 |_,.bnd,_=>by simp[aO,ET.seg,nX]|_,.vals,_=>rfl|_,.tms,_=>rfl
theorem R8:∀(H:List TObj) (e:ET) (x:e.D),av H (e.seg x)=e.one x
 |_,.i,_=>rfl|_,.u,_=>rfl|_,.s,_=>rfl|_,.b,_=>rfl|_,.car,_=>rfl|_,.dec,_=>rfl|_,.ty,_=>rfl|_,.tm,_=>rfl|_,.env,_=>rfl|_,.val,_=>rfl|_,.bnd,_=>rfl|_,.vals,_=>rfl|_,.tms,_=>rfl
theorem EI:∀(e:ET) (g:Nat→Nat) (x:e.D),bF g (e.enc x)=e.enc x
 | .i,_,_=>rfl| .u,_,_=>rfl| .s,_,_=>rfl| .b,_,_=>rfl
 | .car,g,x=>Qt g x| .dec,g,x=>Xy g x| .ty,g,x=>NQ g x| .tm,g,x=>OM g x
 | .env,g,x=>by simp only[ET.enc,bF,ren,mg,Tc,Yk]
 | .val,g,x=>CY g x
 | .bnd,g,x=>by simp only[ET.enc,bF,ren,CY g x.v]
 | .vals,g,x=>by simp only[ET.enc,bF,ren,mg,ZB]
 | .tms,g,x=>by simp only[ET.enc,bF,ren,mg,adx]
theorem iq(e:ET)(g:Nat→Nat)(l:List e.D):cu g (l.map e.enc)=l.map e.enc:=yN (fun g x=>EI e g x) g l
theorem uV(g:Nat→Nat):∀(t:LT) (x:t.D),ren g (eP t x)=eP t x
 | .n _,_=>rfl| .b,_=>rfl| .s,_=>rfl| .m _,_=>rfl
 | .l e,x=>by simp only[eP,ren,mg,iq]
 | .t e,x=>by simp only[eP,ren,EI]
 | .f e,x=>by simp only[eP,ren,iq]
 | .c e,x=>by simp only[eP,ren,mg,iq]
end
end
section
open Go
noncomputable section
def au(H:List TObj):List AObj:=H.map (bY H)
theorem fC(H:List TObj)(l:Nat):obj? (au H) l=bY H (nth .dead H l):=by
 rw[dF];unfold obj? au;rw[qAB,List.getD];cases H[l]?<;>rfl
theorem Vl(H:List TObj)(v:Value):av H (Me v)=vE v∧one (Me v):=by
 unfold Me vE;split
 ·rename_i k n;dsimp only;by_cases h:k.min≤n∧n≤k.max
  ·rw[if_pos h,decide_eq_true h.1,decide_eq_true h.2];exact⟨rfl,fun _=>rfl⟩
  ·rw[if_neg h];have:(decide (k.min≤n)&&decide (n≤k.max))=false:=by
    grind
   rw[this];exact⟨rfl,fun _=>rfl⟩
 ·exact⟨rfl,fun _=>rfl⟩
 ·rename_i s;dsimp only;by_cases h:s.data.toList.length≤9223372036854775807
  ·rw[if_pos h,decide_eq_true h];exact⟨rfl,fun _=>rfl⟩
  ·rw[if_neg h,decide_eq_false h];exact⟨rfl,fun _=>rfl⟩
 ·exact⟨rfl,fun _=>rfl⟩
 ·exact⟨rfl,fun _=>rfl⟩
 ·exact⟨rfl,fun _=>rfl⟩
 ·rename_i h1 h2 h3 h4 h5 h6;split<;>first|exact⟨rfl,fun _=>rfl⟩|(rename_i h;first|exact(h1 _ _ rfl).elim|exact(h2 _ rfl).elim|exact(h3 _ rfl).elim|exact(h4 rfl).elim|exact(h5 rfl).elim|exact(h6 rfl).elim)
theorem QY(H:List TObj){α:Type}(f:α→TV)(g:α→AV)(h:∀a,av H (f a)=g a∧one (f a)):∀l:List α,aO H (l.map f)=l.map g
 |[]=>rfl
 |a::l=>by simp only[qAz,aO,(h a).2 _,(h a).1,QY H f g h l,qAH,qAC]
theorem aco(H:List TObj)(v:Value):av H (ZP v)=ofConst v:=by
 unfold ZP ofConst;split
 ·simp only[av,QY H Me vE (Vl H)]
 ·rename_i h;split
  ·grind
  ·exact(Vl H v).1
theorem aU(H:List TObj)(t:List TV)(x:Operand):aN (aI H t) x=av H (bT t x):=by
 cases x with
 |tmp n=>
  simp only[aN,bT,dF,kL,List.getD,qAB];cases t[n]?<;>rfl
 |const v=>exact(aco H v).symm
 |func f=>rfl
 |global g=>rfl
def AU(H:List TObj):TWr→List TObj
 | .sl _ _=>H
 | .ob l o=>H.set l o
 | .st l off vs=>match nth .dead H l with
  | .box cs=>match lC cs off vs some with
   |some cs=>H.set l (.box cs)
   |none=>H
  |_=>H
 | .kill l=>match nth .dead H l with
  | .own e xs=>H.set l (.gone e xs)
  | .arr _ xs=>H.set l (.gon xs.length)
  | .box _=>H.set l .dead
  | .mp _ _=>H.set l .dead
  |_=>H
 | .nw l o=>H.set l o
 | .up l i e y=>match nth .dead H l with
  | .arr e' xs=>match ET.eq? e e' with
   |some ⟨q⟩=>H.set l (.arr e' (upd xs i (q▸y)))
   |none=>H
  |_=>H
def qR(H:List TObj):TWr→Wr
 | .sl n v=>.slot n (av H v)
 | .ob l o=>.obj l (bY (H.set l o) o)
 | .st l off vs=>.obj l (match bY H (nth .dead H l)with| .box cs=>.box (cs.take off++aO H vs++cs.drop (off+(aO H vs).length))|o=>o)
 | .kill l=>.obj l .dead
 | .nw l o=>.obj l (bY (H.set l o) o)
 | .up l i e y=>.obj l (match nth .dead H l with
  | .arr e' xs=>match ET.eq? e e' with
   |some ⟨q⟩=>.arr e'.sz ((upd xs i (q▸y)).map e'.enc)
   |none=>.dead
  |_=>.dead)
def mM(H:List TObj):List TWr→List Wr
 |[]=>[]
 |w::ws=>qR H w::mM (AU H w) ws
theorem dS(H:List TObj)(d:Option Tmp)(v:TV):mM H (bM d v)=ah d (av H v):=by cases d<;>rfl
def iT:TV→Option (IntKind×Int)
 | .lf (.n k) x=>some (k,x)
 | .nat n=>some (.i64,n)
 |_=>none
theorem QJ{H:List TObj}{v:TV}{k:IntKind}{a:Int}(h:av H v=.int k a):iT v=some (k,a):=by
 cases v with
 |lf t x=>cases t<;>simp only[av]at h<;>first|(cases h;rfl)|cases h
 |nat n=>cases h;rfl
 |own l=>simp only[av]at h;unfold bV at h;split at h<;>cases h
 |psl l z c=>
  cases c with
  |none=>simp only[av]at h;unfold bI at h;split at h<;>cases h
  |some n=>cases h
 |_=>cases h
theorem YX{H:List TObj}{v:TV}{k:IntKind}{a:Int}(h:iT v=some (k,a)):av H v=.int k a:=by
 unfold iT at h;split at h
 ·cases h;rfl
 ·cases h;rfl
 ·cases h
def Kup(t:List TV)(up:List Nat):Prop:=∀i k a,mem up i=true→iT (nth .unk t i)=some (k,a)→k.wrap (a+1)=a+1
def Krl(t:List TV)(rl:List (Nat×Nat×Nat)):Prop:=∀d i j,(d,i,j)∈rl→∀k a,iT (nth .unk t i)=some (k,a)→∃c,iT (nth .unk t j)=some (k,c)∧∀b,nth .unk t d=.lf .b b→b=decide (a<c)
section
variable {P:Program}{γ:Type}{b:γ}{H:List TObj}{t:List TV}{θ:Nat→Option ET}{up:List Nat}{k:Nat}{o:Oper}{K:List Nat→List TWr→Option γ}
def QS(t:List TV)(o:Oper)(ws:List TWr):Prop:=∀d i j tt g,o.op=.binOp .lss tt (.tmp i) (.tmp j) g→o.dst=some d→
 ∃v,ws=[.sl d v]∧∀k a,iT (nth .unk t i)=some (k,a)→∃c,iT (nth .unk t j)=some (k,c)∧∀b,v=.lf .b b→b=decide (a<c)
def jP(P:Program)(H:List TObj)(t:List TV)(k:Nat)(o:Oper)(K:List Nat→List TWr→Option γ)(b:γ):Prop:=
 ∃rd ws ws',aD P k o (aN (aI H t)) (obj? (au H))=some (rd,ws')∧((∀x∈o.op.operands,VF (aN (aI H t) x))→ws'=mM H ws)∧QS t o ws∧K rd ws=some b
theorem aeC{v:TV}{a:AV}(h:aj P o.op (aN (aI H t))=some a)(hv:(∀x∈o.op.operands,VF (aN (aI H t) x))→a=av H v)(hr:QS t o (bM o.dst v))(hK:K [] (bM o.dst v)=some b):jP P H t k o K b:=
 ⟨[],bM o.dst v,ah o.dst a,by simp only[aD,h],fun hx=>by rw[hv hx,dS],hr,hK⟩
def P9:Op→Bool
 | .binOp _ _ _ _ _=>false
 |_=>true
theorem Mj(h:P9 o.op=true)(ws:List TWr):QS t o ws:=fun _ _ _ _ _ e=>by rw[e]at h;cases h
theorem oZ{rd:List Nat}{ws:List TWr}(h:aD P k o (aN (aI H t)) (obj? (au H))=some (rd,mM H ws))(hK:K rd ws=some b)(hn:P9 o.op=true:=by rfl):jP P H t k o K b:=
 ⟨rd,ws,_,h,fun _=>rfl,Mj hn ws,hK⟩
theorem iA{v:TV}(h:aj P o.op (aN (aI H t))=some (av H v))(hK:K [] (bM o.dst v)=some b)(hn:P9 o.op=true:=by rfl):jP P H t k o K b:=
 aeC h (fun _=>rfl) (Mj hn _) hK
theorem oC{v:TV}{K:IntKind→Int→Option γ}(h:xB v K=some b):∃k n,av H v=.int k n∧K k n=some b∧(isNat v=true→∃m:Nat,v=.nat m∧k=.i64∧n=m):=by
 unfold xB at h;split at h
 ·exact⟨_,_,rfl,h,fun h=>by cases h⟩
 ·rename_i m;exact⟨_,_,rfl,h,fun _=>⟨m,rfl,rfl,rfl⟩⟩
 ·cases h
theorem XB{p q:Bool}{op:BinOp}{tt:TypeId}{kk:IntKind}{a c:Int}{K:TV→Option γ}(h:Rn p q op kk a c K=some b)
  (hp:p=true→kk.wrap (a+1)=a+1) (hq:q=true→kk=.i64∧0≤a):
  ∃v x,iP P op tt (.int kk a) (.int kk c)=some x∧(jW kk a→x=av H v)∧K v=some b∧(op=.lss→v=.lf .b (decide (a<c))):=by
 have one1:PG c=true→c=1:=fun h=>by unfold PG at h;split at h;rfl;cases h
 unfold Rn at h;split at h
 ·rcases aM h with⟨hb,h⟩|⟨_,h⟩
  ·simp only[qAa]at hb;have:=one1 hb.2;subst this;exact⟨_,_,by simp only[iP,if_true,hp hb.1,av,eP],fun _=>rfl,h,fun e=>by cases e⟩
  ·exact⟨_,_,by simp only[iP,if_true,av,eP],fun _=>rfl,h,fun e=>by cases e⟩
 ·rcases aM h with⟨hb,h⟩|⟨_,h⟩
  ·simp only[qAa]at hb;have:=one1 hb.2;subst this;obtain⟨rfl,h1⟩:=hq hb.1;refine⟨.lf (.n .i64) (a - 1),_,by simp only[iP,if_true];rfl,fun hw=>?_,h,fun e=>by cases e⟩;have h2:a≤9223372036854775807:=hw.2;exact congrArg (AV.int .i64) (FK (n:=a - 1) (by omega) (by omega)).symm
  ·exact⟨_,_,by simp only[iP,if_true,av,eP],fun _=>rfl,h,fun e=>by cases e⟩
 ·exact⟨_,_,by simp only[iP,if_true,av,eP],fun _=>rfl,h,fun e=>by cases e⟩
 ·split at h
  ·obtain⟨x,h1,h2⟩:=ob h;unfold aez at h1;split at h1
   ·cases h1
   ·rename_i hc;cases h1;exact⟨_,_,by simp only[iP,if_true,hc,if_false,av,eP],fun _=>rfl,h2,fun e=>by cases e⟩
  ·cases h
 ·obtain⟨x,h1,h2⟩:=ob h;unfold VD at h1;split at h1
  ·cases h1
  ·rename_i hc;cases h1;exact⟨.lf (.n kk) _,_,by simp only[iP,if_true,hc,if_false,av,eP],fun _=>rfl,h2,fun e=>by cases e⟩
 ·exact⟨_,_,by simp only[iP,if_true,av,eP],fun _=>rfl,h,fun e=>by cases e⟩
 ·exact⟨_,_,by simp only[iP,if_true,av,eP],fun _=>rfl,h,fun e=>by cases e⟩
 ·exact⟨_,_,by simp only[iP,if_true,av,eP],fun _=>rfl,h,fun _=>rfl⟩
 ·exact⟨_,_,by simp only[iP,if_true,av,eP],fun _=>rfl,h,fun e=>by cases e⟩
 ·exact⟨_,_,by simp only[iP,if_true,av,eP],fun _=>rfl,h,fun e=>by cases e⟩
 ·exact⟨_,_,by simp only[iP,if_true,av,eP],fun _=>rfl,h,fun e=>by cases e⟩
 ·split at h
  ·obtain⟨x,h1,h2⟩:=ob h;unfold WH at h1;split at h1
   ·rename_i hc;cases h1;have hb:(IntKind.i64.bits:Int)=64:=rfl;exact⟨.lf (.n .i64) _,_,by simp only[iP,if_true,hb];rw[if_pos ⟨hc.1,by omega⟩];rfl,fun _=>rfl,h2,fun e=>by cases e⟩
   ·cases h1
  ·cases h
 ·obtain⟨x,h1,h2⟩:=ob h;unfold afA at h1;split at h1
  ·rename_i hc;cases h1;exact⟨.lf (.n kk) _,_,by simp only[iP,if_true];rw[if_pos hc];rfl,fun _=>rfl,h2,fun e=>by cases e⟩
  ·cases h1
 ·cases h
theorem adz{op:BinOp}{tt:TypeId}{a c:Str}{K:TV→Option γ}(h:Z7 op a c K=some b):∃v,iP P op tt (.str a) (.str c)=some (av H v)∧K v=some b:=by
 unfold Z7 at h;split at h
 ·obtain⟨x,h1,h2⟩:=ob h;unfold WI at h1;split at h1
  ·rename_i hc;cases h1;exact⟨_,by simp only[iP,if_pos hc];rfl,h2⟩
  ·cases h1
 all_goals first|cases h|exact⟨_,rfl,h⟩
theorem acf{p o:Bool}{op:BinOp}{tt:TypeId}{x y:TV}{K:TV→Option γ}(h:abu (TI.of P) p o op tt x y K=some b)
  (hp:p=true→∀k a,iT x=some (k,a)→k.wrap (a+1)=a+1):
  ∃v r,iP P op tt (av H x) (av H y)=some r∧(VF (av H x)→r=av H v)∧K v=some b∧(op=.lss→∀k a,iT x=some (k,a)→∃c,iT y=some (k,c)∧v=.lf .b (decide (a<c))):=by
 unfold abu at h;split at h
 ·rcases aM h with⟨hb,h⟩|⟨_,h⟩
  ·have hb:KC P tt=true:=hb;split at h
   all_goals first
    |cases h
    |(refine⟨_,_,?_,fun _=>rfl,h,fun e=>by cases e⟩;simp only[av,eP,iP,hb,if_true,wO];done)
    |(refine⟨_,_,?_,fun _=>rfl,h,fun e=>by cases e⟩;simp only[av,eP,iP,hb,if_true,wO];rename_i l _;cases l<;>rfl)
  ·cases h
 ·split at h
  ·obtain⟨v,h1,h2⟩:=adz (H:=H) h;exact⟨v,_,h1,fun _=>rfl,h2,fun _ k a hx=>by cases hx⟩
  ·cases h
 ·split at h
  ·rcases aM h with⟨hb,h⟩|⟨_,h⟩
   ·have hb:GN P tt=true:=hb;unfold abB at h;split at h
    all_goals first|cases h|exact⟨_,_,by simp only[av,eP,iP,hb,if_true],fun _=>rfl,h,fun e=>by cases e⟩
   ·cases h
  ·cases h
 ·obtain⟨k1,a,e1,h1,hn⟩:=oC (H:=H) h;obtain⟨k2,c,e2,h2,_⟩:=oC (H:=H) h1;rcases aM h2 with⟨hk,h3⟩|⟨_,h3⟩
  ·have hk:k1=k2:=by
    have:=qAc hk;cases k1<;>cases k2<;>first|rfl|cases this
   subst hk;obtain⟨v,r,g1,g2,g3,g4⟩:=XB (P:=P) (H:=H) (tt:=tt) h3 (fun e=>hp (qBw.1 e).1 _ _ (QJ e1)) (fun e=>by
    obtain⟨m,rfl,rfl,rfl⟩:=hn (qBw.1 e).1;exact⟨rfl,by omega⟩)
   rw[e1,e2];exact⟨v,r,g1,g2,g3,fun e k a' hx=>by
    rw[QJ e1]at hx;cases hx;exact⟨c,QJ e2,g4 e⟩⟩
  ·cases h3
end
end
end
section
open Go
section
variable {P:Program}{γ:Type}{b:γ}{H:List TObj}{t:List TV}{θ:Nat→Option ET}{up:List Nat}{k:Nat}{d:Option Tmp}{ty:TypeId}{ps:String}{aft:Array Edge}{gd:Option (Nat×Bool)}{K:List Nat→List TWr→Option γ}
theorem BR(H:List TObj)(v:TV):av H (zD v)=av H v:=by cases v<;>rfl
theorem jY{H:List TObj}{k:Nat}(h:fA (nth .dead H k)=true):aX (obj? (au H) k)=true:=by
 rw[fC];unfold fA at h;split at h
 ·rename_i e;rw[e];rfl
 ·cases h
theorem JB{v:TV}{K:(e:ET)→List e.D→Option γ}(h:LA H v K=some b):∃e xs tg,av H v=.slice (xs.map e.enc) tg∧K e xs=some b:=by
 unfold LA at h;split at h
 ·exact⟨_,_,_,rfl,h⟩
 ·split at h
  ·rename_i hl;exact⟨_,_,_,by simp only[av,hl];rfl,h⟩
  ·rename_i hl;exact⟨_,_,_,by simp only[av,hl];rfl,h⟩
  ·cases h
 ·cases h
abbrev op'(d:Option Tmp)(op:Op)(ty:TypeId)(ps:String)(aft:Array Edge)(gd:Option (Nat×Bool)):Oper:=⟨d,op,ty,ps,aft,gd⟩
theorem acE{x:Operand}(h:bg (TI.of P) θ up k d t H (.move x) K=some b):jP P H t k (op' d (.move x) ty ps aft gd) K b:=
 iA (v:=bT t x) (by simp only[aj,aU]) h
theorem Zw{x:Operand}(h:bg (TI.of P) θ up k d t H (.assign x) K=some b):jP P H t k (op' d (.assign x) ty ps aft gd) K b:=
 iA (v:=bT t x) (by simp only[aj,aU]) h
theorem acn{c x y:Operand}(h:bg (TI.of P) θ up k d t H (.pick c x y) K=some b):jP P H t k (op' d (.pick c x y) ty ps aft gd) K b:=by
 simp only[bg]at h;split at h
 ·rename_i q hq;rcases aM h with⟨e,h⟩|⟨e,h⟩
  ·exact iA (v:=bT t x) (by simp only[aj,aU,hq,av,eP,e,if_true]) h
  ·exact iA (v:=bT t y) (by simp only[aj,aU,hq,av,eP,e,qAI,if_false]) h
 ·cases h
theorem TH{x:Operand}(h:bg (TI.of P) θ up k d t H (.nilCheck x) K=some b):jP P H t k (op' d (.nilCheck x) ty ps aft gd) K b:=by
 simp only[bg]at h;split at h
 ·rename_i e l hx;obtain⟨p,h1,h2⟩:=ob h;have hl:l=p.1::p.2:=by cases l with
   |nil=>cases h1
   |cons y r=>cases h1;rfl
  refine iA (v:=.eptr [e.seg p.1,.lf (.f e) p.2]) ?_ h2;have e1:aO H [e.seg p.1,.lf (.f e) p.2]=e.enc p.1++[.flist (List.map e.enc p.2)]:=by
   have:=MV H e p.1;rw[show[e.seg p.1,TV.lf (.f e) p.2]=[e.seg p.1]++[TV.lf (.f e) p.2]from rfl,sH,this];rfl
  simp only[aj,aU,hx,av,eP,e1,hl,qAz]
 ·rename_i l o hx;exact iA (v:=.ptr l o) (by simp only[aj,aU,hx,av]) h
 ·rename_i cs hx;exact iA (v:=.eptr cs) (by simp only[aj,aU,hx,av]) h
 ·rename_i f cs hx;exact iA (v:=.func f cs) (by simp only[aj,aU,hx,av]) h
 ·cases h
theorem ZE{op:BinOp}{tt t2:TypeId}{x y:Operand}(hk:Kup t up)(h:bg (TI.of P) θ up k d t H (.binOp op tt x y t2) K=some b):jP P H t k (op' d (.binOp op tt x y t2) ty ps aft gd) K b:=by
 simp only[bg]at h;obtain⟨v,r,h1,h2,h3,h4⟩:=acf (P:=P) (H:=H) h (fun hp kk a ha=>by
  split at hp
  ·rename_i i;exact hk i kk a hp ha
  ·cases hp)
 refine aeC (v:=v) (a:=r) (by simp only[aj,aU];exact h1) (fun hv=>h2 ?_) ?_ h3
 ·rw[←aU];exact hv x (by simp[Op.operands])
 ·intro d' i j tt' g e1 e2;obtain⟨rfl,rfl,rfl,rfl,rfl⟩:=e1;subst e2;refine⟨v,rfl,fun k a hx=>?_⟩;obtain⟨c,g1,g2⟩:=h4 rfl k a hx;exact⟨c,g1,fun b hb=>by rw[g2]at hb;cases hb;rfl⟩
theorem acM{op:UnOp}{tt:TypeId}{x:Operand}(h:bg (TI.of P) θ up k d t H (.unOp op tt x) K=some b):jP P H t k (op' d (.unOp op tt x) ty ps aft gd) K b:=by
 simp only[bg]at h;split at h
 ·rename_i q hx;exact iA (v:=.lf .b (!q)) (by simp only[aj,aU,hx,av,eP]) h
 ·rename_i k' n hx;exact iA (v:=.lf (.n k') _) (by simp only[aj,aU,hx,av,eP]) h
 ·cases h
theorem QK{s f:Nat}{x:Operand}(h:bg (TI.of P) θ up k d t H (.fieldAddr s x f) K=some b):jP P H t k (op' d (.fieldAddr s x f) ty ps aft gd) K b:=by
 simp only[bg]at h;rw[Ay]at h;split at h
 ·rename_i fo tt hf;split at h
  ·rename_i l o hx;exact iA (v:=.ptr l (o+fo)) (by simp only[aj,aU,hx,hf,av]) h
  ·rename_i cs hx;obtain⟨a,r,h1,h2,h3⟩:=ny (H:=H) _ _ _ _ h;exact iA (v:=.eptr r) (by simp only[aj,aU,hx,hf,av,h1,←h2,qCr]) h3
  ·rename_i l i z o hx;exact iA (v:=.ap l i z (o+fo)) (by simp only[aj,aU,hx,hf,av,qBP]) h
  ·cases h
 ·cases h
theorem ZR{s f:Nat}{x:Operand}(h:bg (TI.of P) θ up k d t H (.field s x f) K=some b):jP P H t k (op' d (.field s x f) ty ps aft gd) K b:=by
 simp only[bg]at h;rw[Ay]at h;have key:∀(fo:Nat) (tt:TypeId) (cs:List TV),oz P s f=some (fo,tt)→av H (bT t x)=.agg (aO H cs)→(Kn (TI.of P) tt fo cs fun v=>K [] (bM d (zD v)))=some b→jP P H t k (op' d (.field s x f) ty ps aft gd) K b:=fun fo tt cs hf hx h=>by
  obtain⟨v,h1,h2⟩:=EL (H:=H) h;exact iA (v:=zD v) (by simp only[aj,aU,hx,hf,h1,BR]) h2
 split at h
 ·rename_i fo tt hf;split at h
  ·rename_i cs hx;exact key fo tt cs hf (by rw[hx];rfl) h
  ·rename_i e y hx;exact key fo tt _ hf (by rw[hx];simp only[av,eP,aO,nX,qAt]) h
  ·cases h
 ·cases h
theorem uX{e:ET}{sz:Nat}(h:Dv e sz=true):e.sz=sz:=qAc h
theorem agD{tt:TypeId}{sz:Nat}(h:(TI.of P tt).ix=.sl (some sz)):∃e,P.underlying tt=some (.slice e)∧sizeT P e=some sz:=by
 have h:za P tt=.sl (some sz):=h;unfold za at h
 grind
theorem XD{n:Int}{K:Nat→Option γ}{b:γ}:∀(m q:Nat),atK n m q K=some b→∃r,q≤r∧r<q+m∧n=(r:Int)∧K r=some b
 |0,_,h=>by cases h
 |m+1,q,h=>by
  rcases aM h with⟨hc,h⟩|⟨_,h⟩
  ·grind
  ·obtain⟨r,h1,h2,h3⟩:=XD m (q+1) h
   grind
theorem ac0{len:Nat}{x:Int}{c:Nat}(h:RD len x=some c):0≤x∧x≤len∧c=x.toNat:=by
 unfold RD at h;split at h
 ·grind
 ·cases h
theorem QI{tt:TypeId}{x i:Operand}(h:bg (TI.of P) θ up k d t H (.indexAddr tt x i) K=some b):jP P H t k (op' d (.indexAddr tt x i) ty ps aft gd) K b:=by
 simp only[bg]at h;split at h
 ·rename_i sz hix;obtain⟨kk,n,e1,h1,_⟩:=oC (H:=H) h;split at h1
  ·rename_i l z hx;split at h1
   ·rename_i e xs hl;rcases aM h1 with⟨hz,h2⟩|⟨_,h2⟩
    ·have hz:z=sz:=qAc hz;obtain⟨y,h3,h4⟩:=ob h2;obtain⟨g1,g2,g3⟩:=wB h3;have hs:(TI.of P tt).ix=.sl (some sz):=hix;obtain⟨ee,he,hsz⟩:=agD hs;refine iA (v:=.ap l n z 0) ?_ h4;simp only[aj,aU,hx,av,bI]
     grind
    ·cases h2
   ·cases h1
  ·obtain⟨e,xs,tg,e2,h2⟩:=JB h1;rcases aM h2 with⟨hz,h2⟩|⟨_,h2⟩
   ·have hz:=uX hz;obtain⟨y,h3,h4⟩:=ob h2;obtain⟨g1,g2,g3⟩:=wB h3;obtain⟨v,h5,h6⟩:=Gq (P:=P) (t:=tt) (x:=x) (i:=i) (ρ:=aN (aI H t)) (K:=fun v=>v=.eptr (e.enc y)) (by
     simp only[aU];rw[hix,e1,e2];exact⟨e.enc y,by rw[qAB,g3];rfl,g1,by rw[vg];exact hz,rfl⟩)
    exact iA (v:=.eptr [e.seg y]) (by rw[h5,h6];simp only[av,MV]) h4
   ·cases h2
 ·rename_i len sz hix;split at h
  ·rename_i l o hx;obtain⟨kk,n,e1,h1,_⟩:=oC (H:=H) h;obtain⟨q,q1,q2,q3,h2⟩:=XD _ _ h1;obtain⟨v,h5,h6⟩:=Gq (P:=P) (t:=tt) (x:=x) (i:=i) (ρ:=aN (aI H t)) (K:=fun v=>v=.ptr l (o+q*sz)) (by
    simp only[aU];rw[hix,e1,hx];exact⟨⟨by omega,by omega⟩,by rw[q3];rfl⟩)
   exact iA (v:=.ptr l (o+q*sz)) (by rw[h5,h6];rfl) h2
  ·cases h
 ·cases h
theorem aaI{tt:TypeId}{x i:Operand}(h:bg (TI.of P) θ up k d t H (.index tt x i) K=some b):jP P H t k (op' d (.index tt x i) ty ps aft gd) K b:=by
 simp only[bg]at h;split at h
 ·rename_i s hx;rcases aM h with⟨hs,h⟩|⟨_,h⟩
  ·have hs:aj.isStrT P tt=true:=hs;obtain⟨kk,n,e1,h1,_⟩:=oC (H:=H) h;obtain⟨y,h2,h3⟩:=ob h1;unfold qP at h2;split at h2
   ·rename_i hc;cases h2;exact iA (v:=.lf (.n .u8) _) (by simp only[aj,aU,hx,e1,av,eP];rw[if_pos ⟨hs,hc⟩]) h3
   ·cases h2
  ·cases h
 ·cases h
theorem WX{x:Operand}{i:Nat}(h:bg (TI.of P) θ up k d t H (.extract x i) K=some b):jP P H t k (op' d (.extract x i) ty ps aft gd) K b:=by
 simp only[bg]at h;split at h
 ·rename_i vs hx;rcases aM h with⟨hi,h⟩|⟨_,h⟩
  ·have hi:i<vs.length:=qAf hi;refine iA (v:=zD (nth .unk vs i)) ?_ h;simp only[aj,aU,hx,av];simp only[kL,qAi,hi,if_true,BR,dF,List.getD,qAB,qAd hi,qAv,qAs]
  ·cases h
 ·cases h
theorem wm{v:Option TV}{dd:Int}{K:Int→Option γ}(h:zW v dd K=some b):∃n,Bd (v.map (av H)) n dd∧K n=some b:=by
 unfold zW at h;split at h
 ·exact⟨_,.none _,h⟩
 ·obtain⟨kk,n,e1,h1,_⟩:=oC (H:=H) h;exact⟨n,by simp only[qAv,e1];exact .int _ _ _,h1⟩
theorem Rm(H:List TObj)(t:List TV)(x:Option Operand):x.map (aN (aI H t))=(x.map (bT t)).map (av H):=by cases x<;>simp[aU]
theorem aat{tt:TypeId}{x:Operand}{lo hi:Option Operand}(h:bg (TI.of P) θ up k d t H (.slice tt x lo hi none) K=some b):jP P H t k (op' d (.slice tt x lo hi none) ty ps aft gd) K b:=by
 simp only[bg]at h;split at h
 ·rename_i s hx;rcases aM h with⟨hs,h⟩|⟨_,h⟩
  ·obtain⟨lo',hl,h⟩:=wm (H:=H) h;obtain⟨hi',hh,h⟩:=wm (H:=H) h;obtain⟨y,h1,h2⟩:=ob h;obtain⟨r,⟨l0,h0,q1,q2,q3⟩,q4⟩:=agj (B:=fun r=>r=y) h1 hl hh rfl;obtain⟨v,h5,h6⟩:=FU (P:=P) (t:=tt) (x:=x) (lo:=lo) (hi:=hi) (ρ:=aN (aI H t)) (K:=fun v=>v=.str y) (by
    rw[aU,hx,Rm,Rm];rw[show(TI.of P tt).isStr=true from hs];exact⟨l0,h0,q1,q2,by rw[←q3,q4]⟩)
   exact iA (v:=.lf .s y) (by rw[h5,h6];rfl) h2
  ·cases h
 ·rename_i l z hx;split at h
  ·rename_i e xs sz hl hsz;obtain⟨hi',hh,h⟩:=wm (H:=H) h;obtain⟨c,h1,h2⟩:=ob h;obtain⟨g1,g2,g3⟩:=ac0 h1;have hs:aj.sliceT P tt=some sz:=hsz;refine iA (v:=.psl l z (some c)) ?_ h2;have hb:bG (hi.map (aN (aI H t))) xs.length xs.length=some c:=by
    rw[Rm];generalize Option.map (av H) (Option.map (bT t) hi)=q at hh;cases hh with
    |none=>simp[bG];omega
    |int k n=>simp[bG];omega
   simp only[aj,aU,hx,av,hl,bI,hs,hb]
  ·cases h
 ·split at h
  ·rename_i sz hsz;obtain⟨e,xs,tg,e2,h2⟩:=JB h
   ·rcases aM h2 with⟨hz,h⟩|⟨_,h⟩
    ·have hz:=uX hz;obtain⟨lo',hl,h⟩:=wm (H:=H) h;obtain⟨hi',hh,h⟩:=wm (H:=H) h;obtain⟨y,h1,h2⟩:=ob h;obtain⟨r,⟨l0,h0,q1,q2,q2',q3⟩,q4⟩:=agb (f:=e.enc) (sz:=e.sz) (B:=fun r=>r=y.map e.enc) h1 hl hh (qZ e) rfl;obtain⟨v,h5,h6⟩:=FU (P:=P) (t:=tt) (x:=x) (lo:=lo) (hi:=hi) (ρ:=aN (aI H t)) (K:=fun v=>v=.slice (y.map e.enc) .shared) (by
      rw[aU,e2,Rm,Rm];rw[hsz];exact⟨l0,h0,q1,q2,by rw[←hz];exact q2',by rw[←q3,q4]⟩)
     exact iA (v:=.lf (.l e) y) (by rw[h5,h6];rfl) h2
    ·cases h
  ·cases h
end
end
section
open Go
section
variable {P:Program}{γ:Type}{b:γ}{H:List TObj}{t:List TV}{θ:Nat→Option ET}{up:List Nat}{k:Nat}{d:Option Tmp}{ty:TypeId}{ps:String}{aft:Array Edge}{gd:Option (Nat×Bool)}{K:List Nat→List TWr→Option γ}
theorem Ml{a:AV}(h:YV a=true):av H (Dx a)=a∧one (Dx a):=by
 unfold YV at h;split at h<;>first|exact⟨rfl,fun _=>rfl⟩|cases h
theorem zy:∀{z:List AV},Fu z=true→aO H (z.map Dx)=z
 |[],_=>rfl
 |a::z,h=>by
  simp only[Fu,qAa]at h;simp only[qAz,aO,(Ml (H:=H) h.1).2 _,(Ml (H:=H) h.1).1,zy h.2,qAH,qAC]
theorem UL{z:AV}(h:okZ z=true):av H (F6 z)=z:=by
 have key:YV z=true→F6 z=Dx z→av H (F6 z)=z:=fun h e=>by
  rw[e];exact(Ml h).1
 cases z with
 |agg cs=>simp only[F6,av,zy (show Fu cs=true from h)]
 |_=>exact key h rfl
theorem Q0{place:Nat→Option (Nat×Nat)}:∀(l:List (Nat×TV)) (cs:List TV) (K:List TV→Option γ),Kl H place l cs K=some b→∃cs',gy place (aO H cs) (l.map fun p=>(p.1,av H p.2))=some (aO H cs')∧K cs'=some b:=by
 intro l
 induction l with
 |nil=>intro cs K h;exact⟨cs,rfl,h⟩
 |cons p l ih=>
  intro cs K h;simp only[Kl]at h;split at h
  ·rename_i off sz hp;split at h
   ·rename_i new hs;rcases aM h with⟨hw,h⟩|⟨_,h⟩
    ·have hw:(aO H new).length=sz:=by rw[gN];exact qAc hw
     obtain⟨a,r,h1,h2,h3⟩:=ny (H:=H) _ _ _ _ h;obtain⟨c,r',h4,h5,h6⟩:=ny (H:=H) _ _ _ _ h3;obtain⟨cs',h7,h8⟩:=ih _ _ h6;refine⟨cs',?_,h8⟩;have e1:(aO H cs).take off=aO H a:=by rw[h1,←h2,qDb]
     have e2:(aO H cs).drop (off+sz)=aO H r':=by
      grind
     simp only[qAz,gy,hp,su hs];rw[if_pos ⟨hw,by rw[h1,h4];simp;omega⟩,e1,e2];rw[sH,sH,←qAr]at h7;exact h7
    ·cases h
   ·cases h
  ·cases h
theorem NV(l:List (Nat×Operand)):(l.map fun p=>(p.1,aN (aI H t) p.2))=(l.map fun p=>(p.1,bT t p.2)).map fun p=>(p.1,av H p.2):=by
 rw[qBr];exact qAZ fun p _=>by simp only[Function.comp,aU]
theorem aai{tt:TypeId}{parts:Array (Nat×Operand)}(h:bg (TI.of P) θ up k d t H (.build tt parts) K=some b):jP P H t k (op' d (.build tt parts) ty ps aft gd) K b:=by
 rcases aM h with⟨hs,h⟩|⟨_,h⟩
 ·have hs:nH P tt=true:=hs;split at h
  ·rename_i z hz;have hz:gu P tt=some z:=hz;rcases aM h with⟨ho,h⟩|⟨_,h⟩
   ·obtain⟨cs',h1,h2⟩:=Q0 _ _ _ h;rw[zy ho,←NV,funext (OD P tt)]at h1;exact iA (v:=FX cs') (by simp only[aj,hs,if_true,hz,h1,qAv,Nr]) h2
   ·cases h
  ·cases h
 ·rename_i hs;have hs:nH P tt=false:=hs;split at h
  ·rename_i len sz z hix hz;have hz:gu P tt=some z:=hz;have hix:za P tt=.arr len (some sz):=hix;have ha:JL P tt=some sz:=by
    unfold za at hix;unfold JL
    grind
   rcases aM h with⟨ho,h⟩|⟨_,h⟩
   ·obtain⟨cs',h1,h2⟩:=Q0 _ _ _ h;rw[zy ho,←NV]at h1;exact iA (v:=FX cs') (by simp only[aj,hs,qAI,if_false,ha,hz,h1,qAv,Nr]) h2
   ·cases h
  ·cases h
theorem Tt{f:Nat}{first cap:Array Operand}(h:bg (TI.of P) θ up k d t H (.makeFunc (.func f) first cap) K=some b):jP P H t k (op' d (.makeFunc (.func f) first cap) ty ps aft gd) K b:=by
 rcases aM h with⟨hs,h⟩|⟨_,h⟩
 ·have hs:=qAc hs;refine iA (v:=.func f (cap.toList.map fun x=>zD (bT t x))) ?_ h;simp only[aj,hs,if_true,av,kL,qBr,Option.some.injEq,AV.func.injEq,true_and];exact qAZ fun x _=>by simp only[Function.comp,BR];rw[←kL,aU]
 ·cases h
theorem adt{tt:TypeId}{x:Operand}(h:bg (TI.of P) θ up k d t H (.load tt x) K=some b):jP P H t k (op' d (.load tt x) ty ps aft gd) K b:=by
 simp only[bg]at h;split at h
 ·rename_i cs hx;obtain⟨v,h1,h2⟩:=EL (H:=H) h;exact iA (v:=zD v) (by simp only[aj,aU,hx,av,BR];simpa using h1) h2
 ·rename_i l off hx;split at h
  ·rename_i cs hl;obtain⟨v,h1,h2⟩:=EL (H:=H) h;refine oZ (rd:=[l]) (ws:=bM d (zD v)) ?_ h2;simp only[aD,aj,aU,hx,av,fC,hl,bY,h1,qAv,dS,BR]
  ·cases h
 ·rename_i l i z off hx;split at h
  ·rename_i e xs hl;rcases aM h with⟨hc,hh⟩|⟨_,h⟩
   ·clear h;simp only[qAa]at hc;obtain⟨c1,c2,c3⟩:=hc;have c1:z=e.sz:=qAc c1;have c2:off=0:=qAc c2;have c3:1≤z:=qAf c3;subst c1;obtain⟨y,h1,hh⟩:=ob hh;obtain⟨g1,g2,g3⟩:=wB h1;obtain⟨v,h2,h3⟩:=EL (H:=H) hh;rw[MV,qBC]at h2;refine oZ (rd:=[l]) (ws:=bM d (zD v)) ?_ h3;have hi:(i.toNat*e.sz+0)/e.sz=i.toNat:=by rw[qAJ,qCJ _ (by omega)]
    have hget:(xs.map e.enc).getD i.toNat []=e.enc y:=by simp[g3]
    simp only[aD,aj,aU,hx,av,fC,bY,dS,BR]
    grind
   ·cases h
  ·cases h
 ·cases h
theorem V4{s tt:TypeId}{x:Operand}(h:bg (TI.of P) θ up k d t H (.convert s tt x) K=some b):jP P H t k (op' d (.convert s tt x) ty ps aft gd) K b:=by
 simp only[bg]at h;have key:∀(kk:IntKind) (n:Int),av H (bT t x)=.int kk n→(bif (TI.of P s).int.isSome then(match(TI.of P tt).int with|some k=>K [] (bM d (.lf (.n k) (k.wrap n)))|none=>none)else none)=some b→jP P H t k (op' d (.convert s tt x) ty ps aft gd) K b:=fun kk n hx h=>by
  rcases aM h with⟨hs,h⟩|⟨_,h⟩
  ·split at h
   ·rename_i k2 hk2;have h2:=MG hk2;obtain⟨k1,hk1⟩:=qCn.1 hs;have h1:=MG hk1;refine iA (v:=.lf (.n k2) (k2.wrap n)) ?_ h;simp only[aj,aU,hx,aj.convT,h1,h2,av,eP]
   ·cases h
  ·cases h
 split at h
 ·rename_i kk n hx;exact key _ _ (by rw[hx];rfl) h
 ·rename_i n hx;exact key .i64 n (by rw[hx];rfl) h
 ·cases h
theorem JJ:∀{cs:List TV},KF H cs=true→(aO H cs).all isScalar=true
 |[],_=>rfl
 |v::cs,h=>by
  simp only[KF,qAa]at h;simp only[aO,List.all_append,JJ h.2,qBv];have h1:=h.1;cases v with
  |lf tt x=>cases tt<;>first|rfl|(cases h1;done)|(rename_i e;have:=qZ e x;simp only[aV,qAa]at this;exact this.2)
  |own l=>
   simp only[scB]at h1;split at h1
   ·rename_i hl;simp only[av,hl];rfl
   ·rename_i hl;simp only[av,hl];rfl
   ·cases h1
  |psl l z c=>
   cases c with
   |some n=>rfl
   |none=>
    simp only[scB]at h1;split at h1
    ·rename_i hl;simp only[av,hl];rfl
    ·rename_i hl;simp only[av,hl];rfl
    ·cases h1
  |_=>first|rfl|(cases h1;done)
theorem Ow{cs:List TV}{off:Nat}{vs:List TV}{K:List TV→Option γ}(h:lC cs off vs K=some b):∃cs',lC cs off vs some=some cs'∧K cs'=some b:=by
 have key:∀(f:Nat) (cs:List TV) (n:Nat) (K:List TV→List TV→Option γ),splitK f cs n K=some b→∃a r,(∀{δ:Type} (K':List TV→List TV→Option δ),splitK f cs n K'=K' a r)∧K a r=some b:=by
  intro f
  induction f with
  |zero=>intro cs n K h;cases h
  |succ f ih=>
   intro cs n K h;unfold splitK at h;cases n with
   |zero=>exact⟨[],cs,fun K'=>by unfold splitK;rfl,h⟩
   |succ m=>
    cases cs with
    |nil=>cases h
    |cons c r=>
     rcases aM h with⟨hw,h1⟩|⟨hw,h1⟩
     ·obtain⟨a,r',g1,g2⟩:=ih _ _ _ h1;exact⟨c::a,r',fun K'=>by unfold splitK;simp only[hw];exact g1 _,g2⟩
     ·split at h1
      ·rename_i e x;obtain⟨a,r',g1,g2⟩:=ih _ _ _ h1;exact⟨a,r',fun K'=>by unfold splitK;simp only[hw];exact g1 _,g2⟩
      ·cases h1
 obtain⟨a,r,g1,g2⟩:=key _ _ _ _ h;obtain⟨c,r',g3,g4⟩:=key _ _ _ _ g2;exact⟨_,by unfold lC;rw[g1,g3],g4⟩
theorem UQ{cs cs' vs:List TV}{off:Nat}(H:List TObj)(h:lC cs off vs some=some cs'):aO H cs'=(aO H cs).take off++aO H vs++(aO H cs).drop (off+(aO H vs).length)∧off+(aO H vs).length≤(aO H cs).length:=by
 unfold lC at h;obtain⟨a,r,h1,h2,h3⟩:=ny (H:=H) _ _ _ _ h;obtain⟨c,r',h4,h5,h6⟩:=ny (H:=H) _ _ _ _ h3;cases h6;rw[←gN H vs]at h5;have e1:(aO H cs).take off=aO H a:=by rw[h1,←h2,qDb]
 have e2:(aO H cs).drop (off+(aO H vs).length)=aO H r':=by
  rw[h1,h4,←qAr,qCV (by simp only[qAj];omega)]
 refine⟨by rw[sH,sH,e1,e2,qAr],?_⟩;rw[h1,h4];simp only[qAj];omega
theorem Qj{xs ys:List AV}(h:Cvs false xs ys):xs=ys:=by
 induction h with
 |nil=>rfl
 |cons h _ ih=>rw[ih];cases h;rfl
theorem aal{tt:TypeId}{x y:Operand}(h:bg (TI.of P) θ up k d t H (.store tt x y) K=some b):jP P H t k (op' d (.store tt x y) ty ps aft gd) K b:=by
 simp only[bg]at h;split at h
 ·rename_i l off hx;split at h
  ·rename_i new sz hs hz;have hz:sizeT P tt=some sz:=hz;split at h
   ·rename_i cs hl;rcases aM h with⟨hc,h⟩|⟨_,h⟩
    ·simp only[qAa]at hc;obtain⟨⟨c1,c2⟩,c3⟩:=hc;have c1:(aO H new).length=sz:=by rw[gN];exact qAc c1
     have c2:off+sz≤(aO H cs).length:=by rw[gN];exact qAf c2
     refine oZ ?_ h;simp only[aD,aj,aU,hx,av,su hs,fC,hl,bY];rw[if_pos ⟨by rw[c1];exact hz,by rw[c1];exact c2,JJ c3⟩];simp only[mM,qR,hl,bY,dS];rfl
    ·cases h
   ·cases h
  ·cases h
 ·rename_i l i z off hx;split at h
  ·rename_i new sz hs hz;have hz:sizeT P tt=some sz:=hz;split at h
   ·rename_i e xs hl;rcases aM h with⟨hc,hh⟩|⟨_,h⟩
    ·clear h;simp only[qAa]at hc;obtain⟨⟨c1,c2,c4,c5⟩,c3⟩:=hc;have c1:(aO H new).length=sz:=by rw[gN];exact qAc c1
     have c2:z=e.sz:=qAc c2;subst c2;have c4:1≤sz:=qAf c4;have c5:off+sz≤e.sz:=qAf c5;obtain⟨x,h1,h⟩:=ob hh;obtain⟨g1,g2,g3⟩:=wB h1;obtain⟨cs,h2,h⟩:=Ow h;obtain⟨u,r,ys,h3,h4,h5⟩:=Cr _ _ _ _ h;split at h3
     ·obtain⟨y',rfl,h6⟩:=eY h3;have e1:aO H cs=e.enc y':=by
       rw[h4];simp only[aO,qAt];exact(Qj h5).symm
      have e2:=(UQ H h2).1;rw[CG]at e2;have hi:(i.toNat*e.sz+off)/e.sz=i.toNat:=by
       rw[qBA,qCU (by omega),qCP (by omega),qAJ]
      have hm:(i.toNat*e.sz+off)%e.sz=off:=by
       rw[qBA,qCD,qCg (by omega)]
      have hlen:i.toNat<(xs.map e.enc).length:=by rw[qAi];omega
      have hget:(xs.map e.enc).getD i.toNat []=e.enc x:=by simp[List.getD,g3]
      refine oZ ?_ h6;have hr:(upd xs i y').map e.enc=(xs.map e.enc).set i.toNat ((e.enc x).take off++aO H new++(e.enc x).drop (off+(aO H new).length)):=by
       rw[←e2,e1,upd,qCE]
      simp only[aD,aj,aU,hx,av,su hs,fC,hl,bY,hi,hm,mM,qR,ET.eq_self,dS,hr,hget];by_cases hw:sizeT P tt=some (aO H new).length∧(aO H new).length=e.sz∧i.toNat*e.sz+off=i.toNat*e.sz∧i.toNat<(xs.map e.enc).length∧(aO H new).all isScalar
      ·rw[if_pos hw];have ho:off=0:=by omega
       subst ho;have hd:(e.enc x).drop (0+(aO H new).length)=[]:=qCZ (by rw[vg];omega);rw[hd,qBj,qAC,qAt];rfl
      ·rw[if_neg hw,if_pos ⟨by rw[c1];exact hz,by omega,hlen,by omega,JJ c3⟩];rfl
     ·cases h3
    ·cases h
   ·cases h
  ·cases h
 ·cases h
theorem aao{tt:TypeId}(h:bg (TI.of P) θ up k d t H (.alloc tt) K=some b):jP P H t k (op' d (.alloc tt) ty ps aft gd) K b:=by
 simp only[bg]at h;split at h
 ·rename_i z hz;have hz:gu P tt=some z:=hz;rcases aM h with⟨hc,h⟩|⟨_,h⟩
  ·simp at hc;refine oZ (rd:=[k]) ?_ h;simp only[aD,aj,jY hc.2,if_true,hz,qAv,mM,qR,bY,zy hc.1,dS,av]
  ·cases h
 ·cases h
theorem afc{tt:TypeId}{x:Operand}(h:bg (TI.of P) θ up k d t H (.box tt x) K=some b)(hav:∀cs,rC H (bT t x)=some cs→fA (nth .dead H k)=true→aO (H.set k (.box cs)) cs=aO H cs):jP P H t k (op' d (.box tt x) ty ps aft gd) K b:=by
 simp only[bg]at h;split at h
 ·rename_i cs hx;rcases aM h with⟨hc,h⟩|⟨_,h⟩
  ·refine oZ (rd:=[k]) ?_ h;simp only[aD,aj,jY hc,if_true,aU,su hx,qAv,mM,qR,bY,dS,av,hav cs hx hc]
  ·cases h
 ·cases h
theorem WZ{tt:TypeId}(h:bg (TI.of P) θ up k d t H (.makeMap tt none) K=some b):jP P H t k (op' d (.makeMap tt none) ty ps aft gd) K b:=by
 simp only[bg]at h;split at h
 ·split at h
  ·rcases aM h with⟨hc,h⟩|⟨_,h⟩
   ·refine oZ (rd:=[k]) ?_ h;simp only[aD,aj,jY hc,if_true,mM,qR,bY,qBM,dS,av]
   ·cases h
  ·cases h
 ·cases h
theorem aeX{args:Array Operand}{ats:Array TypeId}(h:bg (TI.of P) θ up k d t H (.call {callee:=.builtin .len,args,argTypes:=ats}) K=some b):jP P H t k (op' d (.call {callee:=.builtin .len,args,argTypes:=ats}) ty ps aft gd) K b:=by
 simp only[bg]at h;split at h
 ·rename_i x tt ha hat;split at h
  ·rename_i s hx;rcases aM h with⟨hs,h⟩|⟨_,h⟩
   ·have hs:aj.isStrT P tt=true:=hs;refine iA (v:=.nat s.length) ?_ h;simp only[aj,ha,hat,aU,hx,av,eP,hs,if_true]
   ·cases h
  ·rename_i hx;rcases aM h with⟨hs,h⟩|⟨_,h⟩
   ·have hs:(aj.sliceT P tt).isSome=true:=hs;refine iA (v:=.nat 0) ?_ h;simp only[aj,ha,hat,aU,hx,hs];rfl
   ·cases h
  ·rename_i l z hx;split at h
   ·rename_i e xs hl;rcases aM h with⟨hs,h⟩|⟨_,h⟩
    ·have hs:(aj.sliceT P tt).isSome=true:=hs;refine iA (v:=.nat xs.length) ?_ h;simp only[aj,ha,hat,aU,hx,av,hl,bI,hs,if_true]
    ·cases h
   ·cases h
  ·rcases aM h with⟨hs,h⟩|⟨_,h⟩
   ·have hs:(aj.sliceT P tt).isSome=true:=hs;obtain⟨e,xs,tg,e2,h2⟩:=JB h;refine iA (v:=.nat xs.length) ?_ h2;simp only[aj,ha,hat,aU,e2,hs,if_true,av,qAi]
   ·cases h
 ·cases h
theorem adY{args:Array Operand}{ats:Array TypeId}(h:bg (TI.of P) θ up k d t H (.call {callee:=.builtin .min,args,argTypes:=ats}) K=some b):jP P H t k (op' d (.call {callee:=.builtin .min,args,argTypes:=ats}) ty ps aft gd) K b:=by
 simp only[bg]at h;split at h
 ·rename_i x y ha;obtain⟨k1,a,e1,h1,_⟩:=oC (H:=H) h;obtain⟨k2,c,e2,h2,_⟩:=oC (H:=H) h1;rcases aM h2 with⟨hk,h3⟩|⟨_,h3⟩
  ·have hk:k1=k2:=by
    have:=qAc hk;cases k1<;>cases k2<;>first|rfl|cases this
   subst hk;refine iA (v:=.lf (.n k1) (if c<a then c else a)) ?_ h3;simp only[aj,ha,aU,e1,e2,if_true,av,eP]
  ·cases h3
 ·cases h
end
end
end Abs
end Go.Proofs.YtfmdmcenjfkbhaaGreatDoor
