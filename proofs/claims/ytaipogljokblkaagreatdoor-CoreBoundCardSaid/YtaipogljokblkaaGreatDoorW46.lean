/- Core: BeC, BeD, BeE. -/
import Derived.Test.YtaipogljokblkaaGreatDoorW45
import Derived.Test.YtaipogljokblkaaGreatDoorW01
set_option linter.all false
set_option maxRecDepth 100000
set_option maxHeartbeats 8000000
namespace Go.Proofs.YtaipogljokblkaaGreatDoor
open Go Go.RowKit
set_option linter.unusedSimpArgs false
set_option linter.unusedVariables false
set_option linter.unusedSectionVars false
structure Nn(t:Nat)(p:Pl):Prop where
 BP:∀r,0<=r->r<24->0<=(p.board r).tg/\(p.board r).tg<=t
 cell:∀s f,0<=((p.slot s).cell f).tg/\((p.slot s).cell f).tg<=t
 Ap:∀s,0<=(p.slot s).Ap/\(p.slot s).Ap<=t
def AccT(a:Bo):Prop:=(a.kind=2->Kn a.A2\/a.new.tg=0)/\(a.kind=3->a.new.tg=wr (a.A1.tg+1)\/a.A2=root 24)
section
variable{st:Int}{n t:Nat}{p p':Pl}{g g':SG}{k j:Nat}{a:Bo}{c:Xf}{x:Xj}{s:Int}{own:Int->Tk}
theorem Nn.up{t':Nat}(h:Nn t p)(ht:t<=t'):Nn t' p:=
 ⟨λr a b=>⟨(h.BP r a b).1,by have:=(h.BP r a b).2;omega⟩,λs f=>⟨(h.cell s f).1,by have:=(h.cell s f).2;omega⟩,λs=>⟨(h.Ap s).1,by have:=(h.Ap s).2;omega⟩⟩
theorem Nn.tgB(h:Nn t p)(ht:t<=1000000000):Me p:=
 ⟨λr a b=>⟨(h.BP r a b).1,by have:=(h.BP r a b).2;omega⟩,λs f=>⟨(h.cell s f).1,by have:=(h.cell s f).2;omega⟩⟩
theorem GR(h:KO p own){s g:Int}:p.live s g=true↔s=0\/Lv p own s g:=by
 unfold Pl.live Lv;by_cases h0:s=0
 ·simp[h0]
 ·have ht:=h.tok s;cases hu:(p.slot s).used with
  |true=>
   rw[hu] at ht;have hf:own s≠.free:=λe=>by have:=ht.1 e;cases this
   simp[h0,hf]
  |false=>
   rw[hu] at ht;have hf:own s=.free:=ht.2 rfl;simp[h0,hf]
theorem Ez(h:p.right a=false):(p.act a).1={p with steps:=wr (p.steps+1),fault:=true}/\(p.act a).2=Pl.refused a.kind:=by
 have hr:Pl.right {p with steps:=wr (p.steps+1)} a=false:=h;unfold Pl.act;simp only[hr,Bool.not_false,cond_true];exact⟨trivial,trivial⟩
theorem Fx(h:p.right a=true)(h4:a.kind≠4)(h5:a.kind≠5):p.act a=Pl.touch {p with steps:=wr (p.steps+1)} a:=by
 have hr:Pl.right {p with steps:=wr (p.steps+1)} a=true:=h;unfold Pl.act;simp only[hr,Bool.not_true,cond_false];rw[show(a.kind==4)=false from by simp[h4],show(a.kind==5)=false from by simp[h5]];rfl
theorem Hc:X3 p {p with steps:=wr (p.steps+1),fault:=true}:=⟨λ_ _ _=>rfl,rfl,rfl⟩
theorem KL:X3 p {p with steps:=wr (p.steps+1)}:=⟨λ_ _ _=>rfl,rfl,rfl⟩
theorem V7{w:Xd}{d:Yj}(hd:d.sl=0)(h24:24<=d.fd):X3 p (Pl.put {p with steps:=wr (p.steps+1)} d w):=by
 unfold Pl.put;rw[show(d.sl==0)=true from by simp[hd]];refine⟨λr r0 r1=>?_,rfl,rfl⟩;show Ah p.board d.fd w r=_;rw[X2,if_neg Zo]
theorem PA(hb:KO p own)(hk:a.kind=1):X3 p (p.act a).1/\((a.A2.sl=0\/Lv p own a.A2.sl a.A2.gn)->(p.act a).2.word=p.get a.A2)/\(¬(a.A2.sl=0\/Lv p own a.A2.sl a.A2.gn)->(p.act a).2.word=Y5 (-1)):=by
 have hr:p.right a=p.live a.A2.sl a.A2.gn:=G3 hk Zd Zd;cases hl:p.live a.A2.sl a.A2.gn with
 |false=>
  obtain⟨e1,e2⟩:=Ez (hr.trans hl);rw[e1,e2,hk];exact⟨Hc,λh=>(by rw[(GR hb).2 h] at hl;cases hl),λ_=>rfl⟩
 |true=>
  rw[Fx (hr.trans hl) (by rw[hk];decide) (by rw[hk];decide)];have e:Pl.touch {p with steps:=wr (p.steps+1)} a=({p with steps:=wr (p.steps+1)},⟨Pl.get {p with steps:=wr (p.steps+1)} a.A2,true⟩):=by unfold Pl.touch;rw[hk];rfl
  rw[e];exact⟨KL,λ_=>rfl,λh=>absurd ((GR hb).1 hl) h⟩
theorem Uo(hb:KO p own)(hk:a.kind=1)(hc:c.kind=3\/c.kind=6)(he:a.A2=c.A2)(hx:x.word=(p.act a).2.word):Sem p own c x (p.act a).1:=by
 obtain⟨h1,h2,h3⟩:=PA hb hk;exact Sem.look hc h1 (λh=>by rw[hx,←he];exact h2 (by rw[he];exact h)) (λh=>by rw[hx];exact h3 (by rw[he];exact h))
theorem eK(hb:KO p own)(hk:a.kind=2)(hc:c.kind=4)(he:a.A2=c.A2)(hn:a.new=c.new)(h0:c.A2.sl≠0):Sem p own c x (p.act a).1:=by
 have hr:p.right a=p.live a.A2.sl a.A2.gn:=G3 hk Zd Zd;cases hl:p.live a.A2.sl a.A2.gn with
 |false=>
  obtain⟨e1,_⟩:=Ez (hr.trans hl);rw[e1];refine Sem.JS hc (λh=>?_) Hc;rw[he,(GR hb).2 (Or.inr h)] at hl;cases hl
 |true=>
  rw[Fx (hr.trans hl) (by rw[hk];decide) (by rw[hk];decide)];have e:Pl.touch {p with steps:=wr (p.steps+1)} a=(Pl.put {p with steps:=wr (p.steps+1)} a.A2 a.new,⟨.zero,true⟩):=by unfold Pl.touch;rw[hk];rfl
  rw[e,he,hn];have hl:=((GR hb).1 (show p.live c.A2.sl c.A2.gn=true from by rw[←he];exact hl)).resolve_left h0;refine Sem.store hc hl ?_;unfold Pl.put;rw[show(c.A2.sl==0)=false from by simp[h0]];exact⟨λ_ _ _=>rfl,λt=>X2 ..⟩
theorem mE(hb:KO p own)(hk:a.kind=3)(hc:c.kind=5)(he:a.A2=c.A2)(ho:a.A1=c.A1)(hn:a.new=c.new):Sem p own c (p.act a).2 (p.act a).1:=by
 have hr:p.right a=p.live a.A2.sl a.A2.gn:=G3 hk Zd Zd;cases hl:p.live a.A2.sl a.A2.gn with
 |false=>
  obtain⟨e1,e2⟩:=Ez (hr.trans hl);rw[e1,e2,hk];refine Sem.FW hc Hc rfl (λh=>?_);rw[he,(GR hb).2 h] at hl;cases hl
 |true=>
  rw[Fx (hr.trans hl) (by rw[hk];decide) (by rw[hk];decide)];have e:Pl.touch {p with steps:=wr (p.steps+1)} a=bif AE (Pl.get {p with steps:=wr (p.steps+1)} a.A2) a.A1 then(Pl.put {p with steps:=wr (p.steps+1)} a.A2 a.new,⟨Pl.get {p with steps:=wr (p.steps+1)} a.A2,true⟩) else({p with steps:=wr (p.steps+1)},⟨Pl.get {p with steps:=wr (p.steps+1)} a.A2,false⟩):=by unfold Pl.touch;rw[hk];rfl
  rw[e,he,hn,ho];have hg:Pl.get {p with steps:=wr (p.steps+1)} c.A2=p.get c.A2:=rfl;rw[hg];cases hw:AE (p.get c.A2) c.A1 with
  |false=>exact Sem.FW hc KL rfl (λ_=>hw)
  |true=>
   rw[cond_true];by_cases h0:c.A2.sl=0
   ·refine Sem.D0 hc h0 ?_ ?_ rfl
    ·have:p.get c.A2=p.board c.A2.fd:=by unfold Pl.get;rw[show(c.A2.sl==0)=true from by simp[h0]];rfl
     rw[←this];exact hw
    ·unfold Pl.put;rw[show(c.A2.sl==0)=true from by simp[h0]];exact⟨λq _ _=>X2 ..,rfl⟩
   ·have hl:=((GR hb).1 (show p.live c.A2.sl c.A2.gn=true from by rw[←he];exact hl)).resolve_left h0;refine Sem.D8 hc h0 hl (by rw[←AM h0];exact hw) ?_ rfl;unfold Pl.put;rw[show(c.A2.sl==0)=false from by simp[h0]];exact⟨λ_ _ _=>rfl,λt=>X2 ..⟩
theorem bJ(hk:a.kind=4):p.act a=Pl.alloc {p with steps:=wr (p.steps+1)} a.new.nm:=by
 have hr:Pl.right {p with steps:=wr (p.steps+1)} a=true:=by unfold Pl.right;rw[hk];rfl
 unfold Pl.act;simp only[hr,Bool.not_true,cond_false];rw[show(a.kind==4)=true from by simp[hk]];rfl
theorem tN(hb:KO p own)(hi:HI st n p)(tt:Nn t p)(ht:t<=1000000000)(hk:a.kind=4)(hc:c.kind=8):Sem p own c (p.act a).2 (p.act a).1:=by
 rw[bJ hk];unfold Pl.alloc;simp only;cases hl:p.free.getLast? with
 |none=>exact Sem.Kg hc KL rfl
 |some s=>
  have hm:s∈p.free:=List.mem_of_getLast? hl;have hx:=hi.VM s hm;have hu:=hi.hO s hm;have hg:=tt.Ap s;have hw:wr ((p.slot s).Ap+1)=(p.slot s).Ap+1:=Iy Zo Zo;have hs:∀q,(Ah p.slot s ⟨wr ((p.slot s).Ap+1),true,Ah (λ_=>Xd.zero) 9 (Y5 a.new.nm)⟩) q=if q=s then⟨wr ((p.slot s).Ap+1),true,Ah (λ_=>Xd.zero) 9 (Y5 a.new.nm)⟩ else p.slot q:=λq=>X2 ..;refine Sem.alloc (s:=s) hc ((hb.tok s).2 hu) Zo ⟨λ_ _ _=>rfl,λq hq=>?_,?_,λf hf=>?_,?_⟩ rfl ?_ rfl
  ·show Ah p.slot s _ q=_;rw[hs,if_neg hq]
  ·show(Ah p.slot s _ s).Ap=_;rw[hs,if_pos rfl];exact hw
  ·show(Ah p.slot s _ s).cell f=_;rw[hs,if_pos rfl];show Ah (λ_=>Xd.zero) 9 (Y5 a.new.nm) f=_;rw[X2,if_neg hf]
  ·show(Ah p.slot s _ s).used=_;rw[hs,if_pos rfl]
  ·show _=(Ah p.slot s _ s).Ap;rw[hs,if_pos rfl]
theorem V9(hb:KO p own)(hk:a.kind=5)(h0:a.A1.sl≠0):(Lv p own a.A1.sl a.A1.gn/\PY p (p.act a).1 a.A1.sl)\/(¬Lv p own a.A1.sl a.A1.gn/\X3 p (p.act a).1):=by
 have hr:p.right a=p.live a.A1.sl a.A1.gn:=by unfold Pl.right;rw[hk];rfl
 cases hl:p.live a.A1.sl a.A1.gn with
 |false=>
  obtain⟨e1,_⟩:=Ez (hr.trans hl);rw[e1];exact Or.inr ⟨λh=>(by rw[(GR hb).2 (Or.inr h)] at hl;cases hl),Hc⟩
 |true=>
  have e:(p.act a).1={p with steps:=wr (p.steps+1),slot:=Ah p.slot a.A1.sl {p.slot a.A1.sl with used:=false},free:=p.free++[a.A1.sl]}:=by
   have hr:Pl.right {p with steps:=wr (p.steps+1)} a=true:=hr.trans hl;unfold Pl.act;simp only[hr,Bool.not_true,cond_false];rw[show(a.kind==4)=false from by simp[hk],show(a.kind==5)=true from by simp[hk]];rfl
  have hs:∀q,(Ah p.slot a.A1.sl {p.slot a.A1.sl with used:=false}) q=if q=a.A1.sl then{p.slot a.A1.sl with used:=false} else p.slot q:=λq=>X2 ..;rw[e];refine Or.inl ⟨((GR hb).1 hl).resolve_left h0,λ_ _ _=>rfl,λq hq=>?_,?_,?_⟩
  ·show Ah p.slot a.A1.sl _ q=_;rw[hs,if_neg hq]
  ·show(Ah p.slot a.A1.sl _ a.A1.sl).Ap=_;rw[hs,if_pos rfl]
  ·show(Ah p.slot a.A1.sl _ a.A1.sl).used=_;rw[hs,if_pos rfl]
theorem mF(hb:KO p own)(hk:a.kind=5)(hc:c.kind=9)(ho:a.A1=c.A1)(h0:c.A1.sl≠0):Sem p own c x (p.act a).1:=by
 rcases V9 hb hk (by rw[ho];exact h0) with⟨h1,h2⟩|⟨h1,h2⟩
 ·rw[ho] at h1 h2;exact Sem.drop hc h1 h2
 ·rw[ho] at h1;exact Sem.YQ hc h1 h2
theorem Kh(hk:a.kind=2)(hd:Kn a.A2):X3 p (p.act a).1:=by
 have hr:p.right a=true:=by
  rw[G3 hk Zd Zd];unfold Pl.live;rw[hd.1];rfl
 rw[Fx hr (by rw[hk];decide) (by rw[hk];decide)];have e:Pl.touch {p with steps:=wr (p.steps+1)} a=(Pl.put {p with steps:=wr (p.steps+1)} a.A2 a.new,⟨.zero,true⟩):=by unfold Pl.touch;rw[hk];rfl
 rw[e];exact V7 hd.1 (by have:=hd.2.2.1;omega)
end
section
variable{st:Int}{n t:Nat}{p p':Pl}{g g':SG}{k j:Nat}{a:Bo}{c:Xf}{x:Xj}{s:Int}{own:Int->Tk}{w:Xd}{d:Yj}
theorem nF(h:Nn t p)(hw:d.sl≠0\/d.fd<24->0<=w.tg/\w.tg<=t+1):Nn (t+1) (p.put d w):=by
 have h1:=h.up (Nat.le_succ t);unfold Pl.put;by_cases h0:d.sl=0
 ·rw[show(d.sl==0)=true from by simp[h0]];refine⟨λr a b=>?_,h1.cell,h1.Ap⟩;show 0<=(Ah p.board d.fd w r).tg/\(Ah p.board d.fd w r).tg<=((t+1:Nat):Int);rw[X2];by_cases hr:r=d.fd
  ·rw[if_pos hr];have:=hw (Or.inr Zo);exact⟨this.1,by have:=this.2;omega⟩
  ·rw[if_neg hr];exact h1.BP r a b
 ·rw[show(d.sl==0)=false from by simp[h0]];have hs:∀q,(Ah p.slot d.sl {p.slot d.sl with cell:=Ah (p.slot d.sl).cell d.fd w}) q=if q=d.sl then{p.slot d.sl with cell:=Ah (p.slot d.sl).cell d.fd w} else p.slot q:=λq=>X2 ..;refine⟨h1.BP,λq f=>?_,λq=>?_⟩
  ·show 0<=((Ah p.slot d.sl _ q).cell f).tg/\((Ah p.slot d.sl _ q).cell f).tg<=((t+1:Nat):Int);rw[hs];by_cases hq:q=d.sl
   ·rw[if_pos hq];show 0<=(Ah (p.slot d.sl).cell d.fd w f).tg/\(Ah (p.slot d.sl).cell d.fd w f).tg<=((t+1:Nat):Int);rw[X2];by_cases hf:f=d.fd
    ·rw[if_pos hf];have:=hw (Or.inl h0);exact⟨this.1,by have:=this.2;omega⟩
    ·rw[if_neg hf];exact h1.cell _ _
   ·rw[if_neg hq];exact h1.cell _ _
  ·show 0<=(Ah p.slot d.sl _ q).Ap/\(Ah p.slot d.sl _ q).Ap<=((t+1:Nat):Int);rw[hs];by_cases hq:q=d.sl
   ·rw[if_pos hq];exact h1.Ap d.sl
   ·rw[if_neg hq];exact h1.Ap _
theorem get_tg(h:Nn t p)(hd:d.sl=0->0<=d.fd/\d.fd<24):0<=(p.get d).tg/\(p.get d).tg<=t:=by
 by_cases h0:d.sl=0
 ·unfold Pl.get;rw[show(d.sl==0)=true from by simp[h0]];exact h.BP _ (hd h0).1 (hd h0).2
 ·rw[AM h0];exact h.cell _ _
theorem Wx(h:Nn t p):Nn t {p with steps:=wr (p.steps+1)}:=⟨h.BP,h.cell,h.Ap⟩
theorem act_tg(h:Nn t p)(ht:t<=1000000000)(hi:HI st n p)(ha:Nq st n a)(hT:AccT a):Nn (t+1) (p.act a).1:=by
 have h1:=h.up (Nat.le_succ t);rcases ha with⟨hk,_⟩|⟨hk,_⟩|⟨hk,ha⟩|hk|⟨hk,ho⟩
 ·cases hr:p.right a with
  |false=>rw[(Ez hr).1];exact⟨h1.BP,h1.cell,h1.Ap⟩
  |true=>
   rw[Fx hr (by rw[hk];decide) (by rw[hk];decide)];have e:Pl.touch {p with steps:=wr (p.steps+1)} a=({p with steps:=wr (p.steps+1)},⟨Pl.get {p with steps:=wr (p.steps+1)} a.A2,true⟩):=by unfold Pl.touch;rw[hk];rfl
   rw[e];exact⟨h1.BP,h1.cell,h1.Ap⟩
 ·cases hr:p.right a with
  |false=>rw[(Ez hr).1];exact⟨h1.BP,h1.cell,h1.Ap⟩
  |true=>
   rw[Fx hr (by rw[hk];decide) (by rw[hk];decide)];have e:Pl.touch {p with steps:=wr (p.steps+1)} a=(Pl.put {p with steps:=wr (p.steps+1)} a.A2 a.new,⟨.zero,true⟩):=by unfold Pl.touch;rw[hk];rfl
   rw[e];refine nF (Wx h) λhd=>?_;rcases hT.1 hk with hb|hz
   ·have:=hb.2.2.1;have:=hb.1;omega
   ·rw[hz];omega
 ·cases hr:p.right a with
  |false=>rw[(Ez hr).1];exact⟨h1.BP,h1.cell,h1.Ap⟩
  |true=>
   rw[Fx hr (by rw[hk];decide) (by rw[hk];decide)];have e:Pl.touch {p with steps:=wr (p.steps+1)} a=bif AE (Pl.get {p with steps:=wr (p.steps+1)} a.A2) a.A1 then(Pl.put {p with steps:=wr (p.steps+1)} a.A2 a.new,⟨Pl.get {p with steps:=wr (p.steps+1)} a.A2,true⟩) else({p with steps:=wr (p.steps+1)},⟨Pl.get {p with steps:=wr (p.steps+1)} a.A2,false⟩):=by unfold Pl.touch;rw[hk];rfl
   rw[e];cases hw:AE (Pl.get {p with steps:=wr (p.steps+1)} a.A2) a.A1 with
   |false=>exact⟨h1.BP,h1.cell,h1.Ap⟩
   |true=>
    refine nF (Wx h) λhd=>?_;rcases hT.2 hk with hz|hz
    ·have hd:a.A2.sl=0->0<=a.A2.fd/\a.A2.fd<24:=λh0=>by
      have hd:=hd.resolve_left λh=>h h0;rcases ha with⟨ha|ha,_⟩|ha
      ·have:=ha.1;omega
      ·exact⟨ha.2.2.1,hd⟩
      ·rw[ha] at hd;exact absurd hd (by show ¬((24:Int)<24);decide)
     have hb:=get_tg (Wx h) hd;have:=(NP hw).2;rw[hz,Iy Zo Zo];omega
    ·rw[hz] at hd;have hd:(0:Int)≠0\/(24:Int)<24:=hd;omega
 ·rw[bJ hk];unfold Pl.alloc;simp only;cases hl:p.free.getLast? with
  |none=>exact⟨h1.BP,h1.cell,h1.Ap⟩
  |some s=>
   have hg:=h.Ap s;have hw:wr ((p.slot s).Ap+1)=(p.slot s).Ap+1:=Iy Zo Zo;have hs:∀q,(Ah p.slot s ⟨wr ((p.slot s).Ap+1),true,Ah (λ_=>Xd.zero) 9 (Y5 a.new.nm)⟩) q=if q=s then⟨wr ((p.slot s).Ap+1),true,Ah (λ_=>Xd.zero) 9 (Y5 a.new.nm)⟩ else p.slot q:=λq=>X2 ..;refine⟨h1.BP,λq f=>?_,λq=>?_⟩
   ·show 0<=((Ah p.slot s _ q).cell f).tg/\((Ah p.slot s _ q).cell f).tg<=((t+1:Nat):Int);rw[hs];by_cases hq:q=s
    ·rw[if_pos hq];show 0<=(Ah (λ_=>Xd.zero) 9 (Y5 a.new.nm) f).tg/\(Ah (λ_=>Xd.zero) 9 (Y5 a.new.nm) f).tg<=((t+1:Nat):Int);rw[X2];by_cases hf:f=9
     ·rw[if_pos hf];exact⟨Int.le_refl 0,by show(0:Int)<=((t+1:Nat):Int);omega⟩
     ·rw[if_neg hf];exact⟨Int.le_refl 0,by show(0:Int)<=((t+1:Nat):Int);omega⟩
    ·rw[if_neg hq];exact h1.cell _ _
   ·show 0<=(Ah p.slot s _ q).Ap/\(Ah p.slot s _ q).Ap<=((t+1:Nat):Int);rw[hs];by_cases hq:q=s
    ·rw[if_pos hq];show 0<=wr ((p.slot s).Ap+1)/\wr ((p.slot s).Ap+1)<=((t+1:Nat):Int);rw[hw];omega
    ·rw[if_neg hq];exact h1.Ap _
 ·cases hr:p.right a with
  |false=>rw[(Ez hr).1];exact⟨h1.BP,h1.cell,h1.Ap⟩
  |true=>
   have e:(p.act a).1={p with steps:=wr (p.steps+1),slot:=Ah p.slot a.A1.sl {p.slot a.A1.sl with used:=false},free:=p.free++[a.A1.sl]}:=by
    have hr:Pl.right {p with steps:=wr (p.steps+1)} a=true:=hr;unfold Pl.act;simp only[hr,Bool.not_true,cond_false];rw[show(a.kind==4)=false from by simp[hk],show(a.kind==5)=true from by simp[hk]];rfl
   rw[e];have hs:∀q,(Ah p.slot a.A1.sl {p.slot a.A1.sl with used:=false}) q=if q=a.A1.sl then{p.slot a.A1.sl with used:=false} else p.slot q:=λq=>X2 ..;refine⟨h1.BP,λq f=>?_,λq=>?_⟩
   ·show 0<=((Ah p.slot a.A1.sl _ q).cell f).tg/\((Ah p.slot a.A1.sl _ q).cell f).tg<=((t+1:Nat):Int);rw[hs];by_cases hq:q=a.A1.sl
    ·rw[if_pos hq];exact h1.cell a.A1.sl f
    ·rw[if_neg hq];exact h1.cell _ _
   ·show 0<=(Ah p.slot a.A1.sl _ q).Ap/\(Ah p.slot a.A1.sl _ q).Ap<=((t+1:Nat):Int);rw[hs];by_cases hq:q=a.A1.sl
    ·rw[if_pos hq];exact h1.Ap a.A1.sl
    ·rw[if_neg hq];exact h1.Ap _
theorem JG.hb(h:JG st p g):KO p g.own:=by
 rcases h with⟨_,h⟩|⟨_,h,_⟩|⟨_,h,_⟩|⟨_,h⟩
 ·exact h.lo
 ·exact h.lo
 ·exact h.lo
 ·exact h.hb
theorem JG.alike(h:JG st p g)(e:X3 p p'):JG st p' g/\N0 st j p g p' g:=by
 refine⟨?_,Bs.alike e,λ_ _ _=>Iff.rfl,λ_ _ _=>Iff.rfl⟩;rcases h with⟨q,h⟩|⟨q,h,h2⟩|⟨q,h,h2⟩|⟨q,h⟩
 ·exact Or.inl ⟨q,h.alike e⟩
 ·exact Or.inr (Or.inl ⟨q,h.alike e,h2.alike e⟩)
 ·exact Or.inr (Or.inr (Or.inl ⟨q,h.alike e,h2.alike e⟩))
 ·exact Or.inr (Or.inr (Or.inr ⟨q,h.alike e⟩))
theorem JG.free(h:JG st p g)(hs:g.own s=.note k)(e:PY p p' s):JG st p' ⟨Ah g.own s .free,g.d,g.e⟩/\N0 st k p g p' ⟨Ah g.own s .free,g.d,g.e⟩:=by
 rcases h with⟨q,h⟩|⟨q,h,h2⟩|⟨q,h,h2⟩|⟨q,h⟩
 ·have hr:=h.free (ce:=qT st) (Or.inr hs) e;exact⟨Or.inl ⟨q,hr.1⟩,FK hr.2⟩
 ·subst q;have hr:=h.free (ce:=Tg) (Or.inr hs) e;exact⟨Or.inr (Or.inl ⟨rfl,hr.1,h2.free hs e hr.2⟩),FK hr.2⟩
 ·have hr:=h.free (ce:=Ie) (Or.inr hs) e;have hc:qT st=Ie:=by rcases q with rfl|rfl<;>rfl
  exact⟨Or.inr (Or.inr (Or.inl ⟨q,hr.1,h2.free e hr.2⟩)),FK (by rw[hc];exact hr.2)⟩
 ·subst q;have hr:=h.free (Or.inr hs) e;exact⟨Or.inr (Or.inr (Or.inr ⟨rfl,hr.1⟩)),YO hr.2⟩
end
def EB(M:MR)(c:Xf):Prop:=
 (M.R.step=1/\((c.kind=3/\M.R.AY=⟨1,c.A2,.zero,.zero⟩)\/(c.kind=4/\M.R.AY=⟨2,c.A2,c.A1,c.new⟩)\/(c.kind=5/\M.R.AY=⟨3,c.A2,c.A1,c.new⟩)\/(c.kind=8/\M.R.AY.kind=4)))\/
 (M.R.step=2/\((c.kind=7/\M.R.AY.kind=2/\Kn M.R.AY.A2)\/(c.kind=9/\M.R.AY=⟨5,.zero,c.A1,.zero⟩)))\/
 (M.R.step=4/\c.kind=2/\M.R.AY.kind=2/\Kn M.R.AY.A2)\/(M.R.step=5/\c.kind=6/\M.R.AY=⟨1,c.A2,.zero,.zero⟩)\/
 (M.R.step=7/\c.kind=6/\M.R.AY.kind=2/\Kn M.R.AY.A2)\/(M.R.step=13/\(c.kind=10\/c.kind=11)/\M.R.AY.kind=1)\/(M.R.step=16/\(c.kind=10\/c.kind=11)/\M.R.AY.kind=5)
def R8(M:MR):Prop:=M.R.Au=⟨.zero,true⟩
def Z0(M:MR)(c:Xf)(M':MR):Prop:=Hd M.R M'.R/\(M'.R.step≠0->EB M' c)/\(M'.R.step=0->R8 M')
section
variable{st:Int}{n t:Nat}{M:MR}{R:Xb}{c:Xf}{x:Xj}
theorem SO(M:MR)(c:Xf):Z0 M c (M.wrap M.R.done):=by
 refine⟨by rw[Cl];exact⟨rfl,rfl,rfl,rfl⟩,λh=>?_,λ_=>?_⟩
 ·rw[Cl] at h;exact absurd rfl h
 ·unfold R8;rw[Cl];rfl
theorem scan2(h2:M.R.Aa=2)(ht:1<=M.R.Ac)(t6:M.R.Ac<=6):∃z,M.scan=⟨Xb.load {M.R with index:=0} 13 ⟨0,0,z⟩,M.ns,M.ds,M.ss⟩:=by
 have e:M.R.scan=(Xb.load {M.R with index:=0} 13 ⟨0,0,wr (wr (25+wr (wr (Int.tdiv 0 9)*9))+Int.tmod 0 9)⟩):=by
  unfold Xb.scan;rw[show(M.R.Aa==1)=false from by rw[h2];rfl,show(M.R.Aa==4)=false from by rw[h2];rfl];show(M.R.look 0).1=_;unfold Xb.look;have:decide (wr (M.R.Ac*9)<=0)=false:=by
   rw[decide_eq_false_iff_not,Iy Zo Zo];omega
  rw[show M.R.Az=true from by unfold Xb.Az;rw[h2];rfl,this];rfl
 unfold MR.scan;rw[e];exact⟨_,rfl⟩
theorem bB(h2:M.R.Aa=2)(ht:1<=M.R.Ac)(t6:M.R.Ac<=6)(hc:c.kind=10\/c.kind=11):Z0 M c M.scan:=by
 obtain⟨z,e⟩:=scan2 h2 ht t6;rw[e];exact⟨⟨rfl,rfl,rfl,rfl⟩,λ_=>Or.inr (Or.inr (Or.inr (Or.inr (Or.inr (Or.inl ⟨rfl,hc,rfl⟩))))),λh=>by have h:(13:Int)=0:=h;omega⟩
theorem qJ(h2:M.R.Aa=2)(ht:1<=M.R.Ac)(t6:M.R.Ac<=6)(hc:c.kind=10\/c.kind=11):Z0 M c M.noted:=by
 unfold MR.noted;cases decide (M.R.most<=(M.ns.length:Int)) with
 |true=>exact bB h2 ht t6 hc
 |false=>exact SO M c
theorem Ri(m0:0<=R.me)(m1:R.me<6)(hc:c.kind=2):∀l:List Int,(∀i∈l,0<=i/\i<9)->Hd R (R.CD l)/\(((R.CD l).step=4/\(R.CD l).AY.kind=2/\Kn (R.CD l).AY.A2)\/((R.CD l).step=0/\(R.CD l).Au=⟨.zero,true⟩))
 |[],_=>⟨⟨rfl,rfl,rfl,rfl⟩,Or.inr ⟨rfl,rfl⟩⟩
 |i::r,hl=>by
  unfold Xb.CD;cases wz (R.BM i) with
  |true=>exact Ri m0 m1 hc r λj hj=>hl j (List.mem_cons_of_mem _ hj)
  |false=>
   obtain⟨i0,i1⟩:=hl i (List.mem_cons_self ..);obtain⟨p1,_,_,p4,p5,_⟩:=F6 {R with index:=i} 4 i .zero;simp only[cond_false];exact⟨Hd.trans ⟨rfl,rfl,rfl,rfl⟩ p1,Or.inl ⟨p4,by rw[p5],by rw[p5];exact GH m0 m1 i0 i1⟩⟩
theorem Vi(h2:R.Aa=2)(m0:0<=R.me)(m1:R.me<6)(hc:c.kind=2)(l:List Int)(hl:∀i∈l,0<=i/\i<9):Hd R (R.CZ l)/\(((R.CZ l).step=4/\(R.CZ l).AY.kind=2/\Kn (R.CZ l).AY.A2)\/((R.CZ l).step=0/\(R.CZ l).Au=⟨.zero,true⟩)):=by
 unfold Xb.CZ;rw[show R.CU=false from by unfold Xb.CU;rw[h2];rfl,show R.Az=true from by unfold Xb.Az;rw[h2];rfl];exact Ri m0 m1 hc l hl
theorem mem9:∀i∈([0,1,2,3,4,5,6,7,8]:List Int),0<=i/\i<9:=by decide
theorem LD(h2:M.R.Aa=2)(hb:AD n t M)(hc:Z2 st n c):Z0 M c (M.Ag c):=by
 have hg:∀{k:Int},c.kind=k->k≠10->k≠11->M.Ag c=⟨M.R.Aq c,M.ns,[],[]⟩:=λ{k} e a b=>by
  unfold MR.Ag;rw[show(c.kind==10)=false from by simp[e,a],show(c.kind==11)=false from by simp[e,b]];rfl
 have mk:∀{R':Xb},Hd M.R R'->(R'.step≠0->EB ⟨R',M.ns,[],[]⟩ c)->(R'.step=0->R'.Au=⟨.zero,true⟩)->Z0 M c ⟨R',M.ns,[],[]⟩:=λa b d=>⟨a,b,d⟩;have hs:(M.R.A7 c).CU=false:=by show(M.R.Aa==4||M.R.Aa==5)=false;rw[h2];rfl
 have hk:(M.R.A7 c).Az=true:=by show(M.R.Aa==2||M.R.Aa==3)=true;rw[h2];rfl
 have hd:(M.R.A7 c).dating=false:=by show(M.R.Aa==3||M.R.Aa==5)=false;rw[h2];rfl
 rcases hc with⟨hc,h12⟩|rfl|rfl|rfl
 ·rcases hc with⟨hk3,_⟩|⟨hk4,_⟩|⟨hk5,_⟩|⟨hk6,_⟩|⟨hk7,ho⟩|hk8|⟨hk9,_⟩|⟨hk10,_⟩|h
  ·rw[hg hk3 Zd Zd];refine mk ?_ (λ_=>Or.inl ?_) (λh=>?_)<;>unfold Xb.Aq at*<;>rw[hk3] at*
   ·exact⟨rfl,rfl,rfl,rfl⟩
   ·exact⟨rfl,Or.inl ⟨rfl,rfl⟩⟩
   ·have h:(1:Int)=0:=h;omega
  ·rw[hg hk4 Zd Zd];refine mk ?_ (λ_=>Or.inl ?_) (λh=>?_)<;>unfold Xb.Aq at*<;>rw[hk4] at*
   ·exact⟨rfl,rfl,rfl,rfl⟩
   ·exact⟨rfl,Or.inr (Or.inl ⟨rfl,rfl⟩)⟩
   ·have h:(1:Int)=0:=h;omega
  ·rw[hg hk5 Zd Zd];refine mk ?_ (λ_=>Or.inl ?_) (λh=>?_)<;>unfold Xb.Aq at*<;>rw[hk5] at*
   ·exact⟨rfl,rfl,rfl,rfl⟩
   ·exact⟨rfl,Or.inr (Or.inr (Or.inl ⟨rfl,rfl⟩))⟩
   ·have h:(1:Int)=0:=h;omega
  ·rw[hg hk6 Zd Zd];refine mk ?_ (λ_=>Or.inr (Or.inr (Or.inr (Or.inl ?_)))) (λh=>?_)<;>unfold Xb.Aq at*<;>rw[hk6] at*
   ·exact⟨rfl,rfl,rfl,rfl⟩
   ·exact⟨rfl,rfl,rfl⟩
   ·have h:(5:Int)=0:=h;omega
  ·rw[hg hk7 Zd Zd];have e:M.R.Aq c=(M.R.A7 c).hold c.i c.j:=by unfold Xb.Aq;rw[hk7];rfl
   rw[e];unfold Xb.hold;have hi:0<=c.i/\c.i<9:=by unfold PS at ho;omega
   cases(M.R.A7 c).Az&&!rX ((M.R.A7 c).BM c.i) ((M.R.A7 c).BM c.j) with
   |true=>
    obtain⟨p1,_,_,p4,p5,_⟩:=F6 (M.R.A7 c) 2 c.i ((M.R.A7 c).BM c.j);refine mk (Hd.trans ⟨rfl,rfl,rfl,rfl⟩ p1) (λ_=>Or.inr (Or.inl ⟨p4,Or.inl ⟨hk7,by rw[cond_true,p5],?_⟩⟩)) (λh=>by rw[cond_true,p4] at h;omega);rw[cond_true,p5];exact GH hb.OA hb.O9 hi.1 hi.2
   |false=>exact mk ⟨rfl,rfl,rfl,rfl⟩ (λh=>absurd rfl h) λ_=>rfl
  ·rw[hg hk8 Zd Zd];have e:M.R.Aq c=(M.R.A7 c).alloc:=by unfold Xb.Aq;rw[hk8];rfl
   rw[e];unfold Xb.alloc;rw[hd];exact mk ⟨rfl,rfl,rfl,rfl⟩ (λ_=>Or.inl ⟨rfl,Or.inr (Or.inr (Or.inr ⟨hk8,rfl⟩))⟩) λh=>by have h:(1:Int)=0:=h;omega
  ·rw[hg hk9 Zd Zd];refine mk ?_ (λ_=>Or.inr (Or.inl ?_)) (λh=>?_)<;>unfold Xb.Aq at*<;>rw[hk9] at*
   ·exact⟨rfl,rfl,rfl,rfl⟩
   ·exact⟨rfl,Or.inr ⟨rfl,rfl⟩⟩
   ·have h:(2:Int)=0:=h;omega
  ·unfold MR.Ag;rw[show(c.kind==10)=true from by simp[hk10]];unfold MR.retire;simp only[cond_true];rw[show((MR.mk (M.R.A7 c) M.ns [] []).R.Aa==2)=true from by show(M.R.Aa==2)=true;rw[h2];rfl];have:=qJ (M:=⟨M.R.A7 c,M.ns++[⟨AF c.A1,0,0⟩],[],[]⟩) (c:=c) h2 hb.Q7 hb.Qd (Or.inl hk10);exact⟨Hd.trans ⟨rfl,rfl,rfl,rfl⟩ this.1,this.2⟩
  ·exact absurd h h12
 ·rw[hg (k:=1) rfl Zd Zd];have e:M.R.Aq Yv=(M.R.A7 Yv).enter:=rfl;rw[e];unfold Xb.enter;rw[hs];exact mk ⟨rfl,rfl,rfl,rfl⟩ (λh=>absurd rfl h) λ_=>rfl
 ·rw[hg (k:=2) rfl Zd Zd];have e:M.R.Aq AS=(M.R.A7 AS).CZ [0,1,2,3,4,5,6,7,8]:=rfl;have hl:=Vi (c:=AS) (R:=M.R.A7 AS) h2 hb.OA hb.O9 rfl _ mem9;rw[e];refine mk (Hd.trans ⟨rfl,rfl,rfl,rfl⟩ hl.1) (λh=>?_) λh=>?_
  ·rcases hl.2 with⟨a,b,d⟩|⟨a,_⟩
   ·exact Or.inr (Or.inr (Or.inl ⟨a,rfl,b,d⟩))
   ·exact absurd a h
  ·rcases hl.2 with⟨a,_⟩|⟨_,a⟩
   ·omega
   ·exact a
 ·have e:M.Ag LI=MR.scan ⟨M.R.A7 LI,M.ns,[],[]⟩:=rfl;rw[e];have:=bB (M:=⟨M.R.A7 LI,M.ns,[],[]⟩) (c:=LI) h2 hb.Q7 hb.Qd (Or.inr rfl);exact⟨Hd.trans ⟨rfl,rfl,rfl,rfl⟩ this.1,this.2⟩
theorem bC(M:MR)(hc:c.kind=10\/c.kind=11):Z0 M c M.reap:=by
 unfold MR.reap;cases M.ds with
 |nil=>exact SO M c
 |cons d r=>exact⟨⟨rfl,rfl,rfl,rfl⟩,λ_=>Or.inr (Or.inr (Or.inr (Or.inr (Or.inr (Or.inr ⟨rfl,hc,rfl⟩))))),λh=>by have h:(16:Int)=0:=h;omega⟩
theorem bA(h2:M.R.Aa=2)(hb:AD n t M)(hr:LZ st n M c)(h:EB M c):
  Hd M.R (M.As x).R/\((M.As x).R.step≠0->EB (M.As x) c)/\((M.As x).R.step=0->M.R.step≠7/\(M.R.step≠1->M.R.step≠5->R8 (M.As x))/\(M.R.step=1->(M.As x).R.Au=x)/\(M.R.step=5->(M.As x).R.Au.word=x.word))/\(M.R.step=1\/M.R.step=2->(M.As x).R.step=0):=by
 have ep:∀{M':MR},M.R.step≠1->M.R.step≠5->M.R.step≠7->M.R.step≠2->Z0 M c M'->Hd M.R M'.R/\(M'.R.step≠0->EB M' c)/\(M'.R.step=0->M.R.step≠7/\(M.R.step≠1->M.R.step≠5->R8 M')/\(M.R.step=1->M'.R.Au=x)/\(M.R.step=5->M'.R.Au.word=x.word))/\(M.R.step=1\/M.R.step=2->M'.R.step=0):=
  λa b d f e=>⟨e.1,e.2.1,λh=>⟨d,λ_ _=>e.2.2 h,λh=>absurd h a,λh=>absurd h b⟩,λh=>by omega⟩
 rcases h with⟨hs,h⟩|⟨hs,h⟩|⟨hs,hk,ha,hd⟩|⟨hs,hk,ha⟩|⟨hs,hk,ha,hd⟩|⟨hs,hk,ha⟩|⟨hs,hk,ha⟩
 ·have e:M.As x=M.wrap (M.R.finish x):=by unfold MR.As;simp only[hs];rfl
  rw[e,Cl];refine⟨⟨rfl,rfl,rfl,rfl⟩,λh=>absurd rfl h,λ_=>⟨by omega,λh=>absurd hs h,λ_=>rfl,λh=>by omega⟩,λ_=>rfl⟩
 ·have e:M.As x=M.wrap M.R.done:=by unfold MR.As;simp only[hs];rfl
  have hq:=SO M c;rw[e];exact⟨hq.1,hq.2.1,λh=>⟨by omega,λ_ _=>hq.2.2 h,λh=>by omega,λh=>by omega⟩,λ_=>by rw[Cl];rfl⟩
 ·have e:M.As x=M.wrap (M.R.CZ (([0,1,2,3,4,5,6,7,8]:List Int).filter λn=>decide (M.R.index<n))):=by unfold MR.As;simp only[hs];rfl
  rw[e];have hl:=Vi (c:=c) (R:=M.R) h2 hb.OA hb.O9 hk (([0,1,2,3,4,5,6,7,8]:List Int).filter λn=>decide (M.R.index<n)) λi hi=>mem9 i (List.mem_filter.1 hi).1;refine ep Zo Zo Zo Zo ⟨by rw[Cl];exact hl.1,λh=>?_,λh=>?_⟩
  ·unfold EB;rw[Cl] at h ⊢;rcases hl.2 with⟨a,b,d⟩|⟨a,_⟩
   ·exact Or.inr (Or.inr (Or.inl ⟨a,hk,b,d⟩))
   ·exact absurd a h
  ·unfold R8;rw[Cl] at h ⊢;rcases hl.2 with⟨a,_⟩|⟨_,a⟩
   ·omega
   ·exact a
 ·have e:M.As x=M.wrap (M.R.Bz x):=by unfold MR.As;simp only[hs];rfl
  rw[e];have hi:0<=M.R.call.i/\M.R.call.i<9:=by
   rw[hr.b.1];rcases hr.b.2.2 with⟨e,_⟩|⟨e,_⟩|⟨e,_⟩|⟨e,_⟩|⟨_,_,a,b,_⟩|⟨e,_⟩|⟨e,_⟩|⟨e,_⟩|⟨e,_⟩|⟨e,_⟩|⟨e,_⟩|⟨e,_⟩|⟨e,_⟩|⟨e,_⟩|⟨e,_⟩|⟨e,_⟩<;>first|omega|exact⟨a,b⟩
  have hq:Hd M.R (M.R.Bz x)/\(((M.R.Bz x).step=7/\(M.R.Bz x).AY.kind=2/\Kn (M.R.Bz x).AY.A2)\/((M.R.Bz x).step=0/\(M.R.Bz x).Au.word=x.word)):=by
   unfold Xb.Bz;simp only;rw[show Xb.dating {M.R with word:=x.word}=false from by show(M.R.Aa==3||M.R.Aa==5)=false;rw[h2];rfl];simp only[cond_false];cases(M.R.Aa==2&&(!(x.word.sl==0)&&!RC (Xb.BM {M.R with word:=x.word} M.R.call.i) x.word)) with
   |true=>
    obtain⟨p1,_,_,p4,p5,_⟩:=F6 {M.R with word:=x.word} 7 M.R.call.i (AF x.word);exact⟨Hd.trans ⟨rfl,rfl,rfl,rfl⟩ p1,Or.inl ⟨p4,by rw[cond_true,p5],by rw[cond_true,p5];exact GH hb.OA hb.O9 hi.1 hi.2⟩⟩
   |false=>exact⟨⟨rfl,rfl,rfl,rfl⟩,Or.inr ⟨rfl,rfl⟩⟩
  unfold EB R8;rw[Cl];refine⟨hq.1,λh=>?_,λh=>⟨by omega,λ_ h=>absurd hs h,λh=>by omega,λ_=>?_⟩,λh=>by omega⟩
  ·rcases hq.2 with⟨a,b,d⟩|⟨a,_⟩
   ·exact Or.inr (Or.inr (Or.inr (Or.inr (Or.inl ⟨a,hk,b,d⟩))))
   ·exact absurd a h
  ·rcases hq.2 with⟨a,_⟩|⟨_,a⟩
   ·omega
   ·exact a
 ·have e:M.As x=M.wrap (M.R.load 5 M.R.call.A2):=by unfold MR.As;simp only[hs];rfl
  rw[e];unfold EB;rw[Cl];exact⟨⟨rfl,rfl,rfl,rfl⟩,λ_=>Or.inr (Or.inr (Or.inr (Or.inl ⟨rfl,hk,by rw[hr.b.1];rfl⟩))),λh=>by have h:(5:Int)=0:=h;omega,λh=>by omega⟩
 ·have e:M.As x=M.AG x:=by unfold MR.As;simp only[hs];rfl
  rw[e];refine ep Zo Zo Zo Zo ?_;unfold MR.AG;simp only;cases hl:(M.R.look (M.R.index+1)).2 with
  |true=>
   have e2:(M.R.look (M.R.index+1)).1=(Xb.load {M.R with index:=M.R.index+1} 13 ⟨0,0,wr (wr (25+wr (wr (Int.tdiv (M.R.index+1) 9)*9))+Int.tmod (M.R.index+1) 9)⟩):=by
    unfold Xb.look at hl ⊢;rw[show M.R.Az=true from by unfold Xb.Az;rw[h2];rfl] at hl ⊢;cases hq:decide (wr (M.R.Ac*9)<=M.R.index+1) with
    |true=>rw[hq] at hl;exact absurd hl Zs
    |false=>rfl
   rw[e2];exact⟨⟨rfl,rfl,rfl,rfl⟩,λ_=>Or.inr (Or.inr (Or.inr (Or.inr (Or.inr (Or.inl ⟨rfl,hk,rfl⟩))))),λh=>by have h:(13:Int)=0:=h;omega⟩
  |false=>
   rw[show(!(M.R.Aa==4))=true from by rw[h2];rfl];have:=bC (c:=c) {M with ss:=M.ss++[x.word],ds:=M.ns.filter λn=>!MR.stays {M with ss:=M.ss++[x.word]} n} hk;exact⟨this.1,this.2⟩
 ·have e:M.As x=M.DX:=by unfold MR.As;simp only[hs];rfl
  rw[e];refine ep Zo Zo Zo Zo ?_;unfold MR.DX;obtain⟨d,r,hd,_⟩:=hr.rN hs;rw[hd];have:=bC (c:=c) ⟨{M.R with Bj:=wr (M.R.Bj+1)},M.ns.erase d,r,M.ss⟩ hk;exact⟨this.1,this.2⟩
end
end Go.Proofs.YtaipogljokblkaaGreatDoor
