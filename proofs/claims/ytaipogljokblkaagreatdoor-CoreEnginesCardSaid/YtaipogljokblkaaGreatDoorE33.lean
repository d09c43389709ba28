/- Core: CardA, RR, VP, VU, CGood, PA, CardOps, QA. -/
import Derived.Test.YtaipogljokblkaaGreatDoorCards
import Derived.Test.YtaipogljokblkaaGreatDoorTie
import Derived.Test.YtaipogljokblkaaGreatDoorE26
import Derived.WalkKit
import Derived.ProofKit
import Derived.OpenShut
import Derived.Below
import Derived.ChangeSame
import Derived.Deep.DeepHandedRow
import Derived.Stop.LaidErr
import Derived.LaidLaws
import Derived.ShutString
import Derived.LaidSub
import Derived.WideKeyArgs
import Derived.Carry
import Derived.Deep.Slices
import Derived.Test.YtaipogljokblkaaGreatDoorE01
import Derived.Test.YtaipogljokblkaaGreatDoorE22
import Derived.Test.YtaipogljokblkaaGreatDoorE25
import Derived.Test.YtaipogljokblkaaGreatDoorE32
import Derived.Test.YtaipogljokblkaaGreatDoorE12
import Derived.Test.YtaipogljokblkaaGreatDoorE06
import Derived.Test.YtaipogljokblkaaGreatDoorE30
import Derived.Test.YtaipogljokblkaaGreatDoorE08
set_option linter.all false
set_option maxRecDepth 100000
set_option maxHeartbeats 8000000
namespace Go.Proofs.YtaipogljokblkaaGreatDoor
open Go.ChangeShapes Go.WideShapes Go.ChangeAt Go.RowKit Go.Deep
set_option linter.unusedSimpArgs false
set_option linter.unusedVariables false
set_option linter.unusedSectionVars false
theorem own:ownKnob Tryz.prog.godebug=none:=Zk
theorem pP:Tryz.prog.cellsOf 286=1:=Zk
theorem pL:Tryz.prog.cellsOf 9=1:=Zk
theorem Zf: "*"++ "errors.errorString"= "*errors.errorString":=by decide
theorem yN(u:TypeId)(h:Tryz.prog.typeName? 3 u=some "*errors.errorString"):u=228:=
 typeName_ptr_named (nm:= "errors.errorString") (by rw[Zf];kernel_rfl) Zk Zd u (by rw[Zf];exact h)
noncomputable def laidList:List (String × DataW Unit):=[("sexton/api.ErrArg",Rows.laid_sexton_api_ErrArg),("sexton/api.ErrNil",Rows.laid_sexton_api_ErrNil),("sexton/api.ErrFull",Rows.laid_sexton_api_ErrFull),("sexton/api.ErrState",Rows.laid_sexton_api_ErrState),("sexton/api.ErrFreed",Rows.laid_sexton_api_ErrFreed),("sexton/api.ErrStale",Rows.laid_sexton_api_ErrStale),("sexton/api.ErrTwice",Rows.laid_sexton_api_ErrTwice)]
theorem I5{W:World}{nm:String}{l:List UInt8}{rest:List (String × DataW Unit)}{g:Nat}(h:laidMet Tryz.prog ((nm,.iface "*errors.errorString" (.ptr (.agg [.lit (.string l)])))::rest) W)(hg:Tryz.prog.globalNamed nm=some g)(ht:(Tryz.prog.globals[g]?).map (·.type)=some 28):
  ∃T q,W.cell? ⟨g,0,none⟩=some (.iface T (.pointer (some q))):=by
 obtain⟨a,s,hv,hc,_⟩:=laid_sentinel h hg ht Tryz.underlying28 yN Tryz.underlying228 Tryz.underlying286 rfl rfl Tryz.underlying9 pP pL
 exact⟨_,a,by simpa using World.var?_cell hg hv 0⟩
theorem vJ{W:World}{g:Nat}{v:Value}(h:W.cell? ⟨g,0,none⟩=some v):g<W.heap.size:=by
 unfold World.cell? at h;rcases Nat.lt_or_ge g W.heap.size with hl|hl
 ·exact hl
 ·rw[Array.getElem?_eq_none hl] at h;cases h
theorem worldOf{W:World}(h:laidMet Tryz.prog laidList W):AQ W:=by
 have t0:=h;unfold laidList at t0;have eErrArg:=I5 t0 (g:=0) Zk Zk;have t1:=t0.tail;have eErrNil:=I5 t1 (g:=1) Zk Zk;have t2:=t1.tail;have eErrFull:=I5 t2 (g:=2) Zk Zk;have t3:=t2.tail;have eErrState:=I5 t3 (g:=4) Zk Zk;have t4:=t3.tail;have eErrFreed:=I5 t4 (g:=3) Zk Zk;have t5:=t4.tail;have eErrStale:=I5 t5 (g:=5) Zk Zk;have t6:=t5.tail;have eErrTwice:=I5 t6 (g:=6) Zk Zk;have e8:=eErrTwice;obtain⟨_,_,hlast⟩:=e8;exact⟨eErrArg,eErrNil,eErrFull,eErrState,eErrFreed,eErrStale,eErrTwice,vJ hlast⟩
theorem lastStep{H:Type}{enc:TypeId × Value->H}{P:Program}{f:Func}{s:ChangeSpec}{apart fresh handsOn again:Bool}{W W':World}{args:Array Value}{v:Value}{ds gs:List (DataW H)}{before pa pv:List MemPlace}
  (hW:DataW.Whole enc P f.params.toList s.vars apart W args.toList ds gs before)
  (hres:∀(b:Nat) (sp:Nat->Bool) (hd:Bool),DataW.TrodAll enc P W' b sp hd f.resultTypes.toList (v.resultList f.resultTypes.size) (s.fn H (ds++gs)).results [])
  (hargs:∀sp:Nat->Bool,(∀p∈before,sp p.block=true)->DataW.TrodAll enc P W' 0 sp true f.params.toList args.toList (s.fn H (ds++gs)).args pa)
  (hvars:∀sp:Nat->Bool,(∀p∈before,sp p.block=true)->DataW.TrodVars enc P W' sp s.vars (s.fn H (ds++gs)).vars pv)
  (hps:before=pa++pv)(hb:Below W.heap.size W W')
  (hok:∀(j:Nat) (t:TypeId) (r:Value),f.resultTypes[j]?=some t->(v.resultList f.resultTypes.size)[j]?=some r->Value.okWide P W' .any 0 t r):
  s.post enc P f apart fresh handsOn again W args v W':=by
 have hlt:∀p∈before,p.block<W.heap.size:=λp hp=>hW.lt p hp
 have hold:∀p∈before,(λb=>decide (b<W.heap.size)) p.block=true:=λp hp=>by simpa using hlt p hp
 refine⟨ds,gs,before,[],pa,pv,hW,hres _ _ _,hargs _ hold,hvars _ hold,World.keptBut_mono (λp hp=>⟨hp,?_⟩) (hb.frame (·∈before)),λ_=>?_⟩
 ·rw[hps,List.mem_append] at hp;exact Or.inr hp
 ·obtain⟨_,_,_,_,_,hz,hn⟩:=hW;refine⟨hok,_,_,([]++pa)++pv,⟨[]++pa,pv,trodAll_append (hargs _ (λ_ _=>rfl)) (hres _ _ _),hvars _ (λ_ _=>rfl),rfl,?_,?_⟩,?_⟩
  ·intro b off hp;have hin:MemPlace.cell b off∈before:=by rw[hps];simpa using hp
   rw[hb.frozen (hlt _ hin)];exact hz b off hin
  ·intro ha;have:=hn ha;rw[hps] at this;simpa using this
  ·intro p hp _;rw[hps];simpa using hp
noncomputable def low:Nat:=(World.holding Tryz.prog default ⟨#[],#[],[]⟩).heap.size
def Kk(h:Array Obj)(g:Nat)(cs:Array Value):Array Obj:=h.modify g λ
 |.cells _ t frozen=>.cells cs t frozen
 |o=>o
noncomputable def G8 (l:List UInt8):Obj:=.cells #[.string ⟨l.toArray⟩] 286
noncomputable def laidWorld (os:Os):World:=
 let w0:=World.holding Tryz.prog os ⟨#[G8 [97,110,32,97,114,103,117,109,101,110,116,32,116,104,97,116,32,99,97,110,39,116,32,98,101],G8 [97,32,110,105,108,32,116,104,105,110,103],G8 [110,111,32,114,111,111,109],G8 [110,111,116,32,110,111,119],G8 [97,32,115,108,111,116,32,116,104,97,116,32,105,115,32,102,114,101,101],G8 [97,32,115,108,111,116,32,116,104,97,116,32,105,115,32,97,110,111,116,104,101,114,32,111,110,101,32,110,111,119],G8 [100,111,110,101,32,97,108,114,101,97,100,121]],#[],[]⟩
 let ptr (i:Nat):Array Value:=#[.iface 228 (.pointer (some ⟨low+i,0,none⟩))]
 {w0 with heap:=Kk (Kk (Kk (Kk (Kk (Kk (Kk (w0.heap) 0 (ptr 0)) 1 (ptr 1)) 2 (ptr 2)) 4 (ptr 3)) 3 (ptr 4)) 5 (ptr 5)) 6 (ptr 6)}
theorem laid_met(os:Os)(args:Array Value):laidMet Tryz.prog laidList ((laidWorld os).forCall (λ_ _=>0) ⟨#[],args,[]⟩).memory:=
 laidMet_of_run' 8 Zk Zk
theorem laidOut:laidOutB Tryz.prog=true:=Zk
section
variable{H:Type}{enc:TypeId × Value->H}
theorem trodAll_stays{P:Program}(hl:laidOutB P=true){W W':World}{sp:Nat->Bool}(hb:Below W.heap.size W W'):
  ∀{ts:List TypeId} {vs:List Value} {ds:List (DataW H)} {ps:List MemPlace},(∀t∈ts,P.readableRec t=true/\t<P.types.size)->DataW.TrodAll enc P W 0 (λ_=>true) true ts vs ds ps->
   (∀x∈ps,x.block<W.heap.size)->(∀x∈ps,sp x.block=true)->DataW.TrodAll enc P W' 0 sp true ts vs ds ps
 |[],[],[],_,_,h,_,_=>h
 |[],[],_::_,_,_,h,_,_=>h.elim
 |[],_::_,_,_,_,h,_,_=>h.elim
 |_::_,[],_,_,_,h,_,_=>h.elim
 |_::_,_::_,[],_,_,h,_,_=>h.elim
 |t::ts,v::vs,d::ds,ps,hr,h,hlt,hsp=>by
  obtain⟨p,q,h1,h2,rfl⟩:=h;refine⟨p,q,?_,trodAll_stays hl hb (λt ht=>hr t (by simp[ht])) h2 (λx hx=>hlt x (by simp[hx])) (λx hx=>hsp x (by simp[hx])),rfl⟩;exact WideElems.Trod_stays hl (hr t Zs).1 (hr t Zs).2 h1 (λx hx=>hb.same (hlt x (by simp[hx]))) (λx hx=>hsp x (by simp[hx]))
end
def Xb.fresh(Aa me Af notes:Int):Xb:={Xb.zero with Aa:=Aa,me:=me,Af:=Af,most:=notes}
theorem TG(Aa me Af notes:Int)(w:World)(h1:1<=Aa)(h2:Aa<=5)(h3:1<=Af)(h4:Af<=6)(h5:0<=me)(h6:me<Af)(h7:1<=notes)(h8:notes<=64):
  Calls Tryz.prog 47 #[.int .i64 Aa,.int .i64 me,.int .i64 Af,.int .i64 notes] w (λe w'=>e=.returned (.tuple #[.pointer (some ⟨w.heap.size,0,none⟩),.nilIface])/\RB w' w.heap.size (Xb.fresh Aa me Af notes) [] [] []/\Below w.heap.size w w'):=by
 have d1:decide (Aa<1)=false:=by simp;omega
 have d2:decide (5<Aa)=false:=by simp;omega
 have d3:decide (Af<1)=false:=by simp;omega
 have d4:decide (6<Af)=false:=by simp;omega
 have d5:decide (me<0)=false:=by simp;omega
 have d6:decide (Af<=me)=false:=by simp;omega
 have d7:decide (notes<1)=false:=by simp;omega
 have d8:decide (64<notes)=false:=by simp;omega
 clear h1 h2 h3 h4 h5 h6 h7 h8
 go_enter Tryz.func47,Tryz.ntmps47
 go_wp2_with fail
 go_ret2
 exact⟨rfl,⟨Yw (Bk.at_ rfl) Zk,Own.nil,Own.nil,Own.nil,(λh=>by cases h),(λh=>by cases h),(λh=>by cases h),(λb h=>by cases h),(λb h=>by cases h),(λb h=>by cases h)⟩,vB⟩
def MR.fresh(Aa me Af most:Int):MR:=⟨Xb.fresh Aa me Af most,[],[],[]⟩
def MV.fresh(st Aa me Af most:Int):MV:=⟨st,Aa,0,.zero,.zero,none,.zero,MR.fresh Aa me Af most⟩
theorem Lx.of{w:World}{g:Nat}{R:Xb}{ns ds:List Xq}{ss:List Xe}(h:RB w g R ns ds ss):Lx w g ⟨R,ns,ds,ss⟩ (Yf g R):=⟨R.notes,R.An,R.seen,h,rfl⟩
theorem TH(g:Nat)(e me th mo:Int):∀b∈Yf g (Xb.fresh e me th mo),b=g:=by
 intro b hb;rcases Xn.1 hb with h|h|h|h
 ·exact h
 all_goals cases h
theorem iR(st Aa me Af most:Int)(w:World)(s1:1<=st)(s2:st<=5)(h1:1<=Aa)(h2:Aa<=5)(h3:1<=Af)(h4:Af<=6)(h5:0<=me)(h6:me<Af)(h7:1<=most)(h8:most<=64):
  Calls Tryz.prog 23 #[.int .i64 st,.int .i64 Aa,.int .i64 me,.int .i64 Af,.int .i64 most] w λen w'=>∃gv gr,en=.returned (.tuple #[.pointer (some ⟨gv,0,none⟩),.nilIface])/\
   Bk w' gv 126 ((Gn (MV.fresh st Aa me Af most)).l (.pointer (some ⟨gr,0,none⟩)) .nilIface).toArray/\MA gr .nilIface (MR.fresh Aa me Af most) none w' (λb=>b=gr)/\w.heap.size<=gr/\gr≠gv/\w.heap.size<=gv/\Below w.heap.size w w':=by
 have d1:decide (st<1)=false:=by simp;omega
 have d2:decide (5<st)=false:=by simp;omega
 have hq:=TG Aa me Af most w h1 h2 h3 h4 h5 h6 h7 h8
 clear h1 h2 h3 h4 h5 h6 h7 h8 s1 s2
 go_enter Tryz.func23,Tryz.ntmps23
 go_wp2_with fail
 refine hq.mono ?_
 rintro e w1 ⟨rfl,hr,hb⟩
 have HR:=Zh hr
 have hz1:w.heap.size<w1.heap.size:=hr.bk.lt
 have HB:=Zh hb
 clear hq hr hb
 go_wp2_with fail
 go_ret2
 have hx:Lx w1 w.heap.size (MR.fresh Aa me Af most) _:=Lx.of HR.out
 refine⟨w1.heap.size,w.heap.size,rfl,Yw (Bk.at_ rfl) Zk,⟨rfl,_,hx.same λb hb=>Below.heap_alloc w1 _ b (hx.lt b hb),λb=>⟨?_,λh=>TH _ Aa me Af most b h⟩⟩,Nat.le_refl _,by omega,by omega,HB.out.trans (((Below.refl w1.heap.size w1).alloc (Nat.le_refl _) _).mono HB.out.size)⟩
 rintro rfl
 exact Xn.2 (Or.inl rfl)
def Pl.begun(ns:Nat):Pl:=(Pl.fresh 85 ns).stored 24 (Yy 1)
def Pl.laid(st:Int)(ns:Nat):Pl:=bif st==2 then(Pl.begun ns).Gb else bif st==4 then(Pl.begun ns).Jm else Pl.begun ns
def wJ(p:Pl)(w:World)(en:Ending)(w':World):Prop:=
 ∃gh Fh,en=.returned (.tuple #[.pointer (some ⟨gh,0,none⟩),.nilIface])/\OL w' gh p Fh/\(∀b∈Fh,w.heap.size<=b)/\Below w.heap.size w w'
theorem PH.start{wb:World}{gh:Nat}{p:Pl}{w:World}{Fh:List Nat}(he:AQ w)(hl:wM wb w)(h:OL w gh p Fh)(h40:∀b∈Fh,7<=b):PH wb gh p w (λb=>b∈Fh\/b<7):=⟨⟨he,hl⟩,Fh,h,h40,λ_=>Iff.rfl⟩
theorem RO{gh:Nat}{p:Pl}{w w':World}{F:Nat->Prop}(P:PH w gh p w' F)(c:DS (λb=>b<7) w w')(f:∀b,F b->b<7\/w.heap.size<=b):∃Fh,OL w' gh p Fh/\(∀b∈Fh,w.heap.size<=b)/\Below w.heap.size w w':=by
 obtain⟨⟨_,hl⟩,Fh,h1,h2,h3⟩:=P;refine⟨Fh,h1,λb hb=>(f b ((h3 b).2 (Or.inl hb))).elim (λh=>by have:=h2 b hb;omega) id,c.os,c.tape,c.output,c.size,λk hk=>?_⟩;by_cases h:k<7
 ·exact hl k h
 ·exact c.Ax k hk h
theorem Ux(ns:Nat)(h:ns<=1024):Lr (Pl.fresh 85 ns):=by
 refine⟨λx hx=>?_,?_⟩
 ·have hx:x∈Pl.down ns ns:=hx;obtain⟨i,hi,rfl⟩:=List.mem_map.1 hx;have hi:=List.mem_range.1 hi;show(decide (1<=(ns:Int)-(i:Int))&&decide ((ns:Int)-(i:Int)<=(ns:Int)))=true;simp;omega
 ·show(Pl.down ns ns).length<=5000;rw[Pl.Lc];omega
theorem UQ(ns:Nat)(h:ns<=1024):Lr (Pl.begun ns):=(Ux ns h).stored _ _
theorem IA(ns:Nat)(h:1<=ns):∃l n,(Pl.begun ns).free=l++[n]:=by
 obtain⟨k,rfl⟩:∃k,ns=k+1:=⟨ns-1,by omega⟩;exact⟨Pl.down (k+1) k,((k+1:Nat):Int)-(k:Int),Pl.JQ _ _⟩
theorem WC(st:Int)(ns:Nat)(w:World)(he:AQ w)(h:ns<=1024)(hs:st=2\/st=4->1<=ns):Calls Tryz.prog 22 #[.int .i64 st,.int .i64 (ns:Int)] w (wJ (Pl.laid st ns) w):=by
 have hz:=he.lt;go_enter Tryz.func22,Tryz.ntmps22;go_wp2_with fail;refine(YB _).mono ?_;rintro e w1 ⟨rfl,hc⟩;have HB:=Zh hc.below;have HE:=Zh (he.below hc.below);clear hc he;go_wp2_with fail;refine(TS 85 ns Zd h _).mono ?_;rintro e w2 ⟨gh,Fh,rfl,hp,hF,hb⟩;replace HE:=Zh (HE.out.below hb);have hz1:w.heap.size<=w1.heap.size:=HB.out.size;replace HB:=Zh (HB.out.trans (hb.mono HB.out.size));have HP:=Zh (PH.start (wb:=w) HE.out (λb hx=>HB.out.block b Zo) hp λb hb=>by have:=hF b hb;omega);have HF:=Zh (λb (hx:b∈Fh)=>Nat.le_trans hz1 (hF b hx));clear hb hp HE hF hz1;go_wp2_with fail;refine(qA _).mono ?_;rintro e w3 ⟨rfl,hc⟩;replace HB:=Zh (HB.out.trans (hc.below.mono HB.out.size));replace HP:=Zh (HP.out.AG λb hx=>hc.below.block b (HP.out.lt b hx));clear hc;go_wp2_with fail;refine(fU _).mono ?_;rintro e w4 ⟨rfl,hc⟩;replace HB:=Zh (HB.out.trans (hc.below.mono HB.out.size));replace HP:=Zh (HP.out.AG λb hx=>hc.below.block b (HP.out.lt b hx));clear hc;go_wp2_with fail;refine(FY 24 0 0 1 HP.out (Ux ns h) Zd (by show(24:Int)<((85:Nat):Int);decide)).mono ?_;rintro e w5 ⟨rfl,c5,F5,P5,a5⟩;have hz4:w.heap.size<=w4.heap.size:=HB.out.size;have HC:Hid (DS (λb=>b<7) w w5):=Zh (Ci (Fc HB.out) c5 λb hx=>hx.elim (λh=>Or.inr (HF.out b h)) Or.inl);replace HF:Hid (∀b,F5 b->b<7\/w.heap.size<=b):=Zh λb hx=>(a5 b hx).elim (λh=>h.elim (λh=>Or.inr (HF.out b h)) Or.inl) λh=>Or.inr Zo;replace HP:Hid (PH w gh (Pl.begun ns) w5 F5):=Zh P5;have hz5:w.heap.size<=w5.heap.size:=HC.out.size;have X5:Bk (w5.alloc (.cells #[.int .i64 0,.int .i64 0,.int .i64 0,.int .i64 0,.bool false,.bool false] 108)) w5.heap.size 108 #[.int .i64 0,.int .i64 0,.int .i64 0,.int .i64 0,.bool false,.bool false]:=Bk.at_ rfl;have hB5:=(Below.refl w5.heap.size w5).alloc (Nat.le_refl _) (.cells #[.int .i64 0,.int .i64 0,.int .i64 0,.int .i64 0,.bool false,.bool false] 108);clear c5 P5 a5 HB hz4;by_cases s2:st=2
 ·subst s2;go_wp2_with (refine vM X5 ?_;intro w6 hst;have HL6:=Zh (And.intro hst.grown hst.size);clear hst);have HP6:Hid (PH w gh (Pl.begun ns) w6 F5):=Zh (HP.out.AG λb hb=>(HL6.out.1.block b (by have:=HP.out.lt b hb;have:=hB5.size;omega) (λe=>by cases e;have:=HP.out.lt _ hb;omega)).trans (hB5.block b (HP.out.lt b hb)));have HC6:Hid (DS (λb=>b<7) w w6):=Zh (Ci (Ci HC.out (Fc (F:=λ_=>False) hB5) (λ_ h=>h.elim)) (F1:=λb=>b=w5.heap.size) ⟨HL6.out.1.os,HL6.out.1.tape,HL6.out.1.output,HL6.out.1.size,λb hb hf=>HL6.out.1.block b hb (λe=>hf (by cases e;rfl))⟩ (λb e=>by rw[e];exact Or.inr hz5));obtain⟨l,n,hfr⟩:=IA ns (hs Zd);refine(UI HP6.out (UQ ns h) (by show 24<=85;decide) hfr).mono ?_;rintro e w7 ⟨rfl,c7,F7,P7,l7,a7⟩;have HP7:=Zh P7;have HC7:Hid (DS (λb=>b<7) w w7):=Zh (Ci HC6.out c7 HF.out);have HF7:Hid (∀b,F7 b->b<7\/w.heap.size<=b):=Zh λb hx=>(a7 b hx).elim (HF.out b) λh=>Or.inr (by have:=HC6.out.size;omega);clear P7 c7 a7 l7 HP6 HC6 HF HP HC hfr;go_wp2_with fail;go_ret2;obtain⟨Fh',p1,p2,p3⟩:=RO (p:=Pl.laid 2 ns) HP7.out HC7.out HF7.out;exact⟨gh,Fh',rfl,p1,p2,p3⟩
 by_cases s4:st=4
 ·subst s4;go_wp2_with (refine vM X5 ?_;intro w6 hst;have HL6:=Zh (And.intro hst.grown hst.size);clear hst);have HP6:Hid (PH w gh (Pl.begun ns) w6 F5):=Zh (HP.out.AG λb hb=>(HL6.out.1.block b (by have:=HP.out.lt b hb;have:=hB5.size;omega) (λe=>by cases e;have:=HP.out.lt _ hb;omega)).trans (hB5.block b (HP.out.lt b hb)));have HC6:Hid (DS (λb=>b<7) w w6):=Zh (Ci (Ci HC.out (Fc (F:=λ_=>False) hB5) (λ_ h=>h.elim)) (F1:=λb=>b=w5.heap.size) ⟨HL6.out.1.os,HL6.out.1.tape,HL6.out.1.output,HL6.out.1.size,λb hb hf=>HL6.out.1.block b hb (λe=>hf (by cases e;rfl))⟩ (λb e=>by rw[e];exact Or.inr hz5));obtain⟨l,n,hfr⟩:=IA ns (hs Zd);refine(QK HP6.out (UQ ns h) (by show 24<=85;decide) hfr).mono ?_;rintro e w7 ⟨rfl,c7,F7,P7,l7,a7⟩;have HP7:=Zh P7;have HC7:Hid (DS (λb=>b<7) w w7):=Zh (Ci HC6.out c7 HF.out);have HF7:Hid (∀b,F7 b->b<7\/w.heap.size<=b):=Zh λb hx=>(a7 b hx).elim (HF.out b) λh=>Or.inr (by have:=HC6.out.size;omega);clear P7 c7 a7 l7 HP6 HC6 HF HP HC hfr;go_wp2_with fail;go_ret2;obtain⟨Fh',p1,p2,p3⟩:=RO (p:=Pl.laid 4 ns) HP7.out HC7.out HF7.out;exact⟨gh,Fh',rfl,p1,p2,p3⟩
 ·have q2:(st==2)=false:=by simp[s2]
  have q4:(st==4)=false:=by simp[s4]
  have ep:Pl.laid st ns=Pl.begun ns:=by unfold Pl.laid;rw[q2,q4];rfl
  go_wp2_with (refine vM X5 ?_;intro w6 hst;have HL6:=Zh (And.intro hst.grown hst.size);clear hst);have HP6:Hid (PH w gh (Pl.begun ns) w6 F5):=Zh (HP.out.AG λb hb=>(HL6.out.1.block b (by have:=HP.out.lt b hb;have:=hB5.size;omega) (λe=>by cases e;have:=HP.out.lt _ hb;omega)).trans (hB5.block b (HP.out.lt b hb)));have HC6:Hid (DS (λb=>b<7) w w6):=Zh (Ci (Ci HC.out (Fc (F:=λ_=>False) hB5) (λ_ h=>h.elim)) (F1:=λb=>b=w5.heap.size) ⟨HL6.out.1.os,HL6.out.1.tape,HL6.out.1.output,HL6.out.1.size,λb hb hf=>HL6.out.1.block b hb (λe=>hf (by cases e;rfl))⟩ (λb e=>by rw[e];exact Or.inr hz5));go_ret2;obtain⟨Fh',p1,p2,p3⟩:=RO (p:=Pl.begun ns) HP6.out HC6.out HF.out;exact⟨gh,Fh',rfl,by rw[ep];exact p1,p2,p3⟩
def Cu(st eng Np slots most:Int):Env:=⟨λi=>([st,eng,Np,slots,most]:List Int).getD i 0,λ_=>false,λ_=>.nilIface,λ_=>rfl⟩
def Ub:St:=⟨[],[],[(.le (.lit 1) (.var 0),true),(.le (.var 0) (.lit 5),true),(.le (.lit 1) (.var 1),true),(.le (.var 1) (.lit 5),true),(.le (.lit 1) (.var 2),true),(.le (.var 2) (.lit 6),true),(.le (.lit 0) (.var 3),true),(.le (.var 3) (.lit 1024),true),(.le (.lit 1) (.var 4),true),(.le (.var 4) (.lit 64),true)],10,0⟩
def NG:List SV:=[.agg (vs 0 5)]
def RC:SV × Yh:=((.c (.bool (.le (.var 4) (.lit 64)))),[])
theorem WB:CR (exec Tryz.prog [] 120 (.call 21 NG) Ub)=.leaf RC:=Zk
theorem eQ(st eng Np slots most:Int)(w:World)(a0:1<=st)(b0:st<=5)(a1:1<=eng)(b1:eng<=5)(a2:1<=Np)(b2:Np<=6)(a3:0<=slots)(b3:slots<=1024)(a4:1<=most)(b4:most<=64):Calls Tryz.prog 21 #[.agg #[.int .i64 st,.int .i64 eng,.int .i64 Np,.int .i64 slots,.int .i64 most]] w λen w'=>en=.returned (.bool true)/\Ak [] w w':=by
 refine(Ct (S:=[]) (e:=(Cu st eng Np slots most)) (st:=Ub) (args:=NG) (k:=Dk []) mixed Xu (v:=RC.1) (hp':=RC.2) (by rw[WB];rfl) (CT (show BT.den (Cu st eng Np slots most) (.le (.lit 1) (.var 0))=true from decide_eq_true a0) (CT (show BT.den (Cu st eng Np slots most) (.le (.var 0) (.lit 5))=true from decide_eq_true b0) (CT (show BT.den (Cu st eng Np slots most) (.le (.lit 1) (.var 1))=true from decide_eq_true a1) (CT (show BT.den (Cu st eng Np slots most) (.le (.var 1) (.lit 5))=true from decide_eq_true b1) (CT (show BT.den (Cu st eng Np slots most) (.le (.lit 1) (.var 2))=true from decide_eq_true a2) (CT (show BT.den (Cu st eng Np slots most) (.le (.var 2) (.lit 6))=true from decide_eq_true b2) (CT (show BT.den (Cu st eng Np slots most) (.le (.lit 0) (.var 3))=true from decide_eq_true a3) (CT (show BT.den (Cu st eng Np slots most) (.le (.var 3) (.lit 1024))=true from decide_eq_true b3) (CT (show BT.den (Cu st eng Np slots most) (.le (.lit 1) (.var 4))=true from decide_eq_true a4) (CT (show BT.den (Cu st eng Np slots most) (.le (.var 4) (.lit 64))=true from decide_eq_true b4) (GY rfl))))))))))) (Cv []) (λz hz=>by cases hz) Zk Zk (λz hz=>by cases hz) Zk).mono λen w' hp=>?_;obtain⟨k',hp⟩:=hp;have e1:en=.returned (.bool (decide (most<=64))):=hp.ret.trans Zk;rw[decide_eq_true b4] at e1;exact⟨e1,FQ hp.BV (ls:=[]) Zk Zs⟩
structure FG where
 gv:Nat
 q:BA
 Cw:Int
 last:Int
def FG.l(x:FG):List Value:=[.pointer (some ⟨x.gv,0,none⟩)]++[x.q.v]++[.int .i64 x.Cw]++[.int .i64 x.last]
theorem TD(x:FG):x.l.length=4:=rfl
theorem roone(x:FG):∀u∈x.l,u.oneCell'=true:=by intro u hu;simp[FG.l] at hu;rcases hu with rfl|rfl|rfl|rfl<;>rfl
theorem Ms(x:A3):x.l.length=4:=rfl
theorem opone(x:A3):∀u∈x.l,u.oneCell'=true:=by intro u hu;simp[A3.l] at hu;rcases hu with rfl|rfl|rfl|rfl<;>rfl
theorem Q8(x:Ym):x.l.length=10:=rfl
theorem xE(x:Ym):∀u∈x.l,u.oneCell'=true:=by intro u hu;simp[Ym.l,A3.l,Yu.l] at hu;rcases hu with rfl|rfl|rfl|rfl|rfl|rfl|rfl|rfl|rfl|rfl<;>rfl
theorem zR:(Tryz.prog.info? 79).map (λi=>(i.zero,i.size,i.bytes))=some (some (.agg #[.pointer none,.slice none 0 0,.int .i64 0,.int .i64 0]),4,48):=Zk
theorem zS:(Tryz.prog.info? 35).map (λi=>(i.zero,i.size,i.bytes))=some (some (.agg #[.int .i64 0,.int .i64 0,.int .i64 0,.int .i64 0]),4,32):=Zk
theorem Ur:(Tryz.prog.info? 42).map (λi=>(i.zero,i.size,i.bytes))=some (some (.agg #[.int .i64 0,.bool false,.int .i64 0,.int .i64 0,.int .i64 0,.int .i64 0,.bool false,.bool false,.int .i64 0,.int .i64 0]),10,72):=Zk
theorem NJ(w:World)(v:Value)(l:List FG)(h:Own w 79 4 v l.length (rows FG.l l))(hl:l.length<=100000)(x:FG)(b:Nat)(hb:Bk w b 79 x.l.toArray)(t:TypeId):
  ∃v' w',(Builtin.append_ #[72,72] t #[v,.slice (some ⟨b,0,none⟩) 1 1]).run Tryz.prog w=.ok v' w'/\
   Own w' 79 4 v' (l++[x]).length (rows FG.l (l++[x]))/\w.grownBy w' v.ownBlock/\Em w v v':=
 AX TD roone Tryz.underlying72 zR rfl Zd Zd w v l h hl x b hb t
theorem NK(w:World)(v:Value)(l:List A3)(h:Own w 35 4 v l.length (rows A3.l l))(hl:l.length<=100000)(x:A3)(b:Nat)(hb:Bk w b 35 x.l.toArray)(t:TypeId):
  ∃v' w',(Builtin.append_ #[22,22] t #[v,.slice (some ⟨b,0,none⟩) 1 1]).run Tryz.prog w=.ok v' w'/\
   Own w' 35 4 v' (l++[x]).length (rows A3.l (l++[x]))/\w.grownBy w' v.ownBlock/\Em w v v':=
 AX Ms opone Tryz.underlying22 zS rfl Zd Zd w v l h hl x b hb t
theorem LI(w:World)(v:Value)(l:List Ym)(h:Own w 42 10 v l.length (rows Ym.l l))(hl:l.length<=100000)(x:Ym)(b:Nat)(hb:Bk w b 42 x.l.toArray)(t:TypeId):
  ∃v' w',(Builtin.append_ #[37,37] t #[v,.slice (some ⟨b,0,none⟩) 1 1]).run Tryz.prog w=.ok v' w'/\
   Own w' 42 10 v' (l++[x]).length (rows Ym.l (l++[x]))/\w.grownBy w' v.ownBlock/\Em w v v':=
 AX Q8 xE Tryz.underlying37 Ur rfl Zd Zd w v l h hl x b hb t
def iI(w:World)(r:FG)(T:MT)(F:Nat->Prop):Prop:=
 r.Cw=T.Cw/\r.last=T.last/\∃Fv:Nat->Prop,VB w r.gv T.V Fv/\Own w 35 4 r.q.v T.queue.length (rows A3.l T.queue)/\(∀b,Fv b->r.q.v.ownBlock≠some b)/\∀b,F b↔Fv b\/r.q.v.ownBlock=some b
section
variable{w w':World}{r:FG}{T:MT}{F:Nat->Prop}
theorem iI.AG(h:iI w r T F)(hs:∀b,F b->w'.heap[b]?=w.heap[b]?):iI w' r T F:=by
 obtain⟨h1,h2,Fv,h3,h4,h5,h6⟩:=h;exact⟨h1,h2,Fv,h3.AG λb hb=>hs b ((h6 b).2 (Or.inl hb)),h4.kept λb hb=>hs b ((h6 b).2 (Or.inr hb)),h5,h6⟩
theorem iI.lt(h:iI w r T F):∀b,F b->b<w.heap.size:=by
 obtain⟨h1,h2,Fv,h3,h4,h5,h6⟩:=h;intro b hb;rcases(h6 b).1 hb with hb|hb
 ·exact h3.lt b hb
 ·exact h4.lt hb
end
structure Er(w:World)(gp gh:Nat)(P:Ai)(tv bv:BA)(ro:List FG)(Fh:List Nat)(Ft:Nat->Nat->Prop)(lab:Nat->Nat):Prop where
 bk:Bk w gp 74 #[.int .i64 P.st,.pointer (some ⟨gh,0,none⟩),tv.v,bv.v]
 KB:Own w 79 4 tv.v ro.length (rows FG.l ro)
 K4:Own w 42 10 bv.v P.Ao.length (rows Ym.l P.Ao)
 hp:OL w gh P.heap Fh
 len:ro.length=P.A8.length
 th:∀i r T,ro[i]?=some r->P.A8[i]?=some T->iI w r T (Ft i)
 l0:lab gp=0
 l1:∀b,tv.v.ownBlock=some b->lab b=1
 l2:∀b,bv.v.ownBlock=some b->lab b=2
 l3:∀b∈Fh,lab b=3
 l4:∀i b,i<P.A8.length->Ft i b->lab b=4+i
 low:∀b,b<7->1000<=lab b
 Oo:P.A8.length<=6
end Go.Proofs.YtaipogljokblkaaGreatDoor
namespace Go.Proofs.YtaipogljokblkaaGreatDoor
open Go.ChangeShapes Go.WideShapes Go.ChangeAt Go.RowKit Go.Deep
theorem ZF{α:Type}{p:Nat->α->Prop}:∀(n:Nat),(∀i,i<n->∃t,p i t)->∃l:List α,l.length=n/\∀i (h:i<l.length),p i l[i]
 |0,_=>⟨[],rfl,λi h=>by simp at h⟩
 |n+1,h=>by
  obtain⟨l,hl,hp⟩:=ZF n (λi hi=>h i Zo);obtain⟨t,ht⟩:=h n Zo;refine⟨l++[t],by simp[hl],λi hi=>?_⟩;by_cases e:i<l.length
  ·rw[List.getElem_append_left e];exact hp i e
  ·have:i=n:=by simp at hi;omega
   subst this;rw[List.getElem_append_right Zo];simpa [hl] using ht
theorem ZW:Tryz.prog.cellsOf 35=4:=Zk
theorem pM:Tryz.prog.cellsOf 3=1:=Zk
theorem eY(l:List A3)(i:Nat)(hi:i<l.length)(j:Nat)(hj:j<4):(rows A3.l l)[i*4+j]?=(l[i]).l[j]?:=by
 obtain⟨u,hu⟩:∃u,(l[i]).l[j]?=some u:=⟨_,List.getElem?_eq_getElem (show j<(l[i]).l.length by rw[Ms];exact hj)⟩;rw[hu];exact Ez Ms l i hi j u hu
section
variable{H:Type}{enc:TypeId × Value->H}{W:World}{base:Nat}{spare:Nat->Bool}{held:Bool}
theorem nA{fuel:Nat}{cs:List Value}{x:DataW H × List MemPlace}(h:DataW.trod enc Tryz.prog W base spare held fuel 35 cs=some x):∃o:A3,cs=o.l:=by
 obtain⟨ys,n,_,_,hc,hlen,hg⟩:=DataW.trod_struct Tryz.underlying35 h;rw[ZW] at hc;match cs,hc,ys,hlen with
 |[c0,c1,c2,c3],_,[y0,y1,y2,y3],_=>
  have g0:=hg 0 _ rfl;have g1:=hg 1 _ rfl;have g2:=hg 2 _ rfl;have g3:=hg 3 _ rfl;simp[pM] at g0 g1 g2 g3;obtain⟨a,e0,_⟩:=DataW.trod_int Tryz.underlying3 g0;obtain⟨b,e1,_⟩:=DataW.trod_int Tryz.underlying3 g1;obtain⟨c,e2,_⟩:=DataW.trod_int Tryz.underlying3 g2;obtain⟨d,e3,_⟩:=DataW.trod_int Tryz.underlying3 g3;simp at e0 e1 e2 e3;subst e0 e1 e2 e3;exact⟨⟨a,b,c,d⟩,rfl⟩
theorem Ws{a:Addr}{v:Value}(h:W.cell? (a.add 0)=some v):∃b off,a=⟨b,off,none⟩:=by
 obtain⟨b,off,spot⟩:=a;have hspot:spot=none:=by simpa [Addr.add] using World.cell?_spot h
 subst hspot;exact⟨b,off,rfl⟩
theorem mZ{fuel:Nat}{cs:List Value}{x:DataW H × List MemPlace}(h:DataW.trod enc Tryz.prog W base spare held fuel 22 cs=some x):
  ∃(A:Option Addr) (c:Nat) (l:List A3),cs=[.slice A l.length c]/\Sl W W.heap.size 4 A l.length (rows A3.l l):=by
 rcases open_slice Tryz.underlying22 h with⟨rfl,_⟩|⟨a,len,cap,m,n,D,Pl,rfl,_,hlc,hcm,hm,_,hel⟩
 ·exact⟨none,0,[],rfl,Sl.none_⟩
 ·have hlm:len<=m:=by rw[hm];split<;>omega
  obtain ⟨l,hl,hp⟩:=ZF (p:=fun i (t:A3)=>∀ j,j < 4→W.cell? ((a.add (i*4)).add j) = t.l[j]?) len (fun i hi=>by
   obtain⟨cs',hc,ht⟩:=hel i Zo;rw[ZW] at hc;obtain⟨t,rfl⟩:=nA ht;obtain⟨_,_,hat⟩:=World.cells?_some hc;exact⟨t,λj hj=>hat j hj⟩)
  refine⟨some a,cap,l,by rw[hl],⟨by rw[Y0 Ms],λhpos=>?_⟩⟩;have h0:=hp 0 hpos 0 Zo;have h00:W.cell? ((a.add (0*4)).add 0)=some (.int .i64 (l[0]).kind):=h0;rw[add_add,show 0*4+0=0 from rfl] at h00;obtain⟨b,off,rfl⟩:=Ws h00;have hbl:=World.block_lt_of_cell? W _ h00;refine⟨b,off,rfl,by simpa [Addr.add] using hbl,λj u hu=>?_⟩;have hjl:j<l.length*4:=by
   have:=(List.getElem?_eq_some_iff.1 hu).1;rwa [Y0 Ms] at this
  have hq:j/4<l.length:=Zo;have h1:=hp (j/4) hq (j%4) Zo;rw[add_add,show j/4*4+j%4=j from by omega,add_plain] at h1;rw[h1,←eY l (j/4) hq (j%4) Zo,show j/4*4+j%4=j from by omega];exact hu
theorem ops_arg{b0:Nat}{v:Value}{d:DataW H}{p:List MemPlace}(hv:Value.okWide Tryz.prog W .any b0 22 v)(h:DataW.Trod enc Tryz.prog W base spare held 22 v d p):
  ∃(A:Option Addr) (c:Nat) (l:List A3),v=.slice A l.length c/\Sl W W.heap.size 4 A l.length (rows A3.l l):=by
 obtain⟨fuel,hf⟩:=h
 obtain⟨A,c,l,hc,hs⟩:=mZ hf
 obtain⟨A',n',c',rfl⟩:=okWide_slice Tryz.underlying22 hv
 simp[Value.cells] at hc
 obtain⟨rfl,rfl,rfl⟩:=hc
 exact⟨A',c',l,rfl,hs⟩
end
section
variable{w w':World}{gp gh:Nat}{P:Ai}{tv bv:BA}{ro:List FG}{Fh:List Nat}{Ft:Nat->Nat->Prop}{lab:Nat->Nat}
theorem Er.fG(h:Er w gp gh P tv bv ro Fh Ft lab){i:Nat}(hi:i<P.A8.length):∀b,Ft i b->b<w.heap.size:=by
 have hi':i<ro.length:=by rw[h.len];exact hi
 exact(h.th i ro[i] P.A8[i] (List.getElem?_eq_getElem hi') (List.getElem?_eq_getElem hi)).lt
theorem Er.below(h:Er w gp gh P tv bv ro Fh Ft lab)(hb:Below w.heap.size w w'):Er w' gp gh P tv bv ro Fh Ft lab:=
 ⟨h.bk.Ac hb,h.KB.below hb,h.K4.below hb,h.hp.same λb hx=>hb.block b (h.hp.lt b hx),h.len,λi r T h1 h2=>(h.th i r T h1 h2).AG λb hx=>hb.block b ((h.th i r T h1 h2).lt b hx),h.l0,h.l1,h.l2,h.l3,h.l4,h.low,h.Oo⟩
open Classical in
theorem Er.add{w2:World}{u:BA}{r:FG}{T:MT}{F:Nat->Prop}(h:Er w gp gh P tv bv ro Fh Ft lab)(ho:Own w2 79 4 u.v (ro++[r]).length (rows FG.l (ro++[r])))(hg:w.grownBy w2 tv.v.ownBlock)(hf:Em w tv.v u.v)
  (ht:iI w r T F)(hF:∀b,F b->1000<=lab b)(h40:∀b,F b->7<=b)(hz:7<=w.heap.size)(hn:P.A8.length<6):∃Ft' lab',Er (w2.setCell ⟨gp,2,none⟩ u.v) gp gh {P with A8:=P.A8++[T]} u bv (ro++[r]) Fh Ft' lab'/\
   (∀b,lab' b<1000->lab b<1000\/F b\/w.heap.size<=b)/\∀b,1000<=lab b->b<w.heap.size->¬F b->1000<=lab' b:=by
 have lgp:=h.bk.lt
 have gtv:tv.v.ownBlock≠some gp:=λe=>by have:=h.l1 gp e;rw[h.l0] at this;omega
 have gu:u.v.ownBlock≠some gp:=λe=>(hf gp e).elim gtv λh'=>by omega
 have uF:∀b,F b->u.v.ownBlock≠some b:=λb hb e=>(hf b e).elim (λe=>by have:=h.l1 b e;have:=hF b hb;omega) λh'=>by have:=ht.lt b hb;omega
 have same:∀b,b<w.heap.size->tv.v.ownBlock≠some b->b≠gp->(w2.setCell ⟨gp,2,none⟩ u.v).heap[b]?=w.heap[b]?:=λb hb h1 h2=>
  ((Xs w2 gp 2 u.v).block b (Nat.lt_of_lt_of_le hb hg.size) (λe=>h2 (by cases e;rfl))).trans (hg.block b hb λe=>h1 e.symm)
 have lb:∀b c,lab b=c->c≠0->c≠1->b<w.heap.size->(w2.setCell ⟨gp,2,none⟩ u.v).heap[b]?=w.heap[b]?:=λb c e h0 h1 hb=>same b hb (λe'=>h1 (by rw[←e];exact h.l1 b e')) λe'=>h0 (by rw[←e,e'];exact h.l0)
 have hlab:∀b,b<w.heap.size->u.v.ownBlock≠some b->¬F b->(if u.v.ownBlock=some b then 1 else if F b then 4+P.A8.length else if w.heap.size<=b then 1000 else lab b)=lab b:=λb h1 h2 h3=>by rw[if_neg h2,if_neg h3,if_neg Zo]
 have uo:∀b c,lab b=c->c≠1->b<w.heap.size->u.v.ownBlock≠some b:=λb c e h1 hb e'=>(hf b e').elim (λe2=>h1 (by rw[←e];exact h.l1 b e2)) λh'=>by omega
 refine⟨λi=>if i=P.A8.length then F else Ft i,λb=>if u.v.ownBlock=some b then 1 else if F b then 4+P.A8.length else if w.heap.size<=b then 1000 else lab b,⟨?_,?_,?_,?_,?_,?_,?_,?_,?_,?_,?_,?_,?_⟩,?_,?_⟩
 ·exact Yw ((h.bk.grown hg (λe=>gtv e.symm)).Eo 2 u.v) Zk
 ·exact ho.grown (Xs w2 gp 2 u.v) (Or.inr gu)
 ·exact h.K4.kept λb hb=>lb b 2 (h.l2 b hb) Zd Zd (h.K4.lt hb)
 ·exact h.hp.same λb hb=>lb b 3 (h.l3 b hb) Zd Zd (h.hp.lt b hb)
 ·simp[h.len]
 ·intro i r' T' h1 h2;by_cases hi:i=P.A8.length
  ·rw[if_pos hi];have e1:r'=r:=by rw[hi,←h.len,List.getElem?_append_right (Nat.le_refl _)] at h1;simpa using h1.symm
   have e2:T'=T:=by rw[hi] at h2;simp only[List.getElem?_append_right (Nat.le_refl _)] at h2;simpa using h2.symm
   rw[e1,e2];exact ht.AG λb hb=>same b (ht.lt b hb) (λe=>by have:=h.l1 b e;have:=hF b hb;omega) λe=>by have:=h.l0;have:=hF b hb;rw[e] at this;omega
  ·rw[if_neg hi];have hl:i<P.A8.length:=by
    rcases Nat.lt_or_ge i (P.A8.length+1) with hx|hx
    ·omega
    ·rw[List.getElem?_eq_none (by simpa using hx)] at h2;cases h2
   rw[List.getElem?_append_left (by rw[h.len];exact hl)] at h1;simp only[List.getElem?_append_left hl] at h2;exact(h.th i r' T' h1 h2).AG λb hb=>lb b (4+i) (h.l4 i b hl hb) Zo Zo (h.fG hl b hb)
 ·show(if _ then _ else _)=0;rw[hlab gp lgp gu λhx=>by have:=hF gp hx;rw[h.l0] at this;omega];exact h.l0
 ·intro b hb;show(if _ then _ else _)=1;rw[if_pos hb]
 ·intro b hb;have:=h.l2 b hb;show(if _ then _ else _)=2;rw[hlab b (h.K4.lt hb) (uo b 2 this Zd (h.K4.lt hb)) λhx=>by have:=hF b hx;omega];exact this
 ·intro b hb;have:=h.l3 b hb;show(if _ then _ else _)=3;rw[hlab b (h.hp.lt b hb) (uo b 3 this Zd (h.hp.lt b hb)) λhx=>by have:=hF b hx;omega];exact this
 ·intro i b hi hb;replace hb:(if i=P.A8.length then F else Ft i) b:=hb;by_cases hi':i=P.A8.length
  ·rw[if_pos hi'] at hb;show(if _ then _ else _)=4+i;rw[if_neg (uF b hb),if_pos hb,hi']
  ·rw[if_neg hi'] at hb;have hl:i<P.A8.length:=by simp at hi;omega
   have hlb:=h.l4 i b hl hb;show(if _ then _ else _)=4+i;rw[hlab b (h.fG hl b hb) (uo b (4+i) hlb Zo (h.fG hl b hb)) λhx=>by have:=hF b hx;have:=h.Oo;omega];exact hlb
 ·intro b hb;show 1000<=(if _ then _ else _);have hl:=h.low b hb;rw[hlab b Zo (λe=>(hf b e).elim (λe=>by have:=h.l1 b e;omega) λh'=>by omega) λhx=>by have:=h40 b hx;omega];exact hl
 ·show(P.A8++[T]).length<=6;simp;omega
 ·intro b hb;by_cases h1:F b
  ·exact Or.inr (Or.inl h1)
  ·by_cases h2:w.heap.size<=b
   ·exact Or.inr (Or.inr h2)
   ·refine Or.inl ?_;by_cases h3:u.v.ownBlock=some b
    ·rcases hf b h3 with e|e
     ·rw[h.l1 b e];decide
     ·omega
    ·simp only at hb;rwa [hlab b Zo h3 h1] at hb
 ·intro b h1 h2 h3;show 1000<=(if _ then _ else _);rw[hlab b h2 (λe=>(hf b e).elim (λe=>by have:=h.l1 b e;omega) λh'=>by omega) h3];exact h1
end
end Go.Proofs.YtaipogljokblkaaGreatDoor
