/- Short names for tactics that come often: each is a theorem whose argument is found by the tactic. -/
set_option linter.unusedVariables false
theorem Za {g r:Prop}(k:r)(h:r→g:=by first|exact XiL|fail):g:=h k
theorem Zb {g r:Prop}(k:r)(h:r→g:=by first|exact Xew|fail):g:=h k
theorem Zc {g r:Prop}(k:r)(h:r→g:=by first|exact X4|fail):g:=h k
theorem Zd {g r:Prop}(k:r)(h:r→g:=by first|exact Xj rfl rfl (by decide) (Xas rfl rfl)|fail):g:=h k
theorem Ze {g r:Prop}(k:r)(h:r→g:=by first|exact Xj rfl rfl (by decide) (XaJ rfl rfl)|fail):g:=h k
theorem Zf {g r:Prop}(k:r)(h:r→g:=by first|exact Xlt|fail):g:=h k
theorem Zg {g r:Prop}(k:r)(h:r→g:=by first|exact Xge rfl (by first | rfl | exact decide_eq_false (by omega) | exact Xb5 (by omega))|fail):g:=h k
theorem Zh {g r:Prop}(k:r)(h:r→g:=by first|exact XjX|fail):g:=h k
theorem Zi {g r:Prop}(k:r)(h:r→g:=by first|exact Xfj rfl (by first | rfl | exact decide_eq_true (by omega) | exact Xb4 (by omega))|fail):g:=h k
theorem Zj {g r:Prop}(k:r)(h:r→g:=by first|exact Xj rfl rfl (by decide) (XE rfl rfl rfl rfl)|fail):g:=h k
theorem Zk {g r:Prop}(k:r)(h:r→g:=by first|exact Xj rfl rfl (by decide) (XP rfl rfl rfl (congrArg some (decide_eq_false (by omega))))|fail):g:=h k
theorem Zl {g r:Prop}(k:r)(h:r→g:=by first|exact Xj rfl rfl (by decide) (XP rfl rfl rfl (congrArg some (decide_eq_true (by omega))))|fail):g:=h k
theorem Zm {g r:Prop}(k:r)(h:r→g:=by first|exact XiM|fail):g:=h k
theorem Zn {g r:Prop}(k:r)(h:r→g:=by first|exact Xbl 0 hG rfl rfl (by decide) rfl rfl rfl rfl|fail):g:=h k
theorem Zo {g r:Prop}(k:r)(h:r→g:=by first|exact Xh3|fail):g:=h k
theorem Zp {g r:Prop}(k:r)(h:r→g:=by first|exact XmS rfl rfl rfl rfl rfl (by decide) (by first | rfl | exact decide_eq_true (by omega) | exact decide_eq_false (by omega) | exact Xb4 (by omega) | exact Xb5 (by omega))|fail):g:=h k
theorem Zq {g r:Prop}(k:r)(h:r→g:=by first|exact Xj rfl rfl (by decide) (Xbf rfl rfl (by first | rfl | exact decide_eq_false (by omega)) rfl)|fail):g:=h k
theorem Zr {g r:Prop}(k:r)(h:r→g:=by first|exact Xj rfl rfl (by decide) (Xet rfl rfl)|fail):g:=h k
theorem Zs {g r:Prop}(k:r)(h:r→g:=by first|exact XgN|fail):g:=h k
theorem Zt {g r:Prop}(k:r)(h:r→g:=by first|exact Xj rfl rfl (by decide) (Xbe rfl rfl (by first | rfl | exact decide_eq_true (by omega)) rfl)|fail):g:=h k
theorem Zu {g r:Prop}(k:r)(h:r→g:=by first|exact Xj rfl rfl (by decide) (XaS rfl rfl rfl)|fail):g:=h k
theorem Zv {g r:Prop}(k:r)(h:r→g:=by first|exact Xj rfl rfl (by decide) (XdS rfl rfl rfl)|fail):g:=h k
theorem Zw {g r:Prop}(k:r)(h:r→g:=by first|exact XoS rfl rfl rfl rfl rfl (by decide) (by first | rfl | exact decide_eq_true (by omega) | exact decide_eq_false (by omega) | exact Xb4 (by omega) | exact Xb5 (by omega))|fail):g:=h k
theorem Zx {g r:Prop}(k:r)(h:r→g:=by first|exact XwU|fail):g:=h k
theorem Zy {g r:Prop}(k:r)(h:r→g:=by first|exact Xj rfl rfl (by decide) (XP rfl rfl rfl (congrArg some (Xb4 (by omega))))|fail):g:=h k
theorem Zz {g r:Prop}(k:r)(h:r→g:=by first|exact Xxl mixed (by decide +kernel)|fail):g:=h k
theorem ZA {g r:Prop}(k:r)(h:r→g:=by first|exact XbI 0 hG rfl rfl rfl rfl rfl rfl rfl rfl rfl rfl rfl|fail):g:=h k
theorem ZB {g r:Prop}(k:r)(h:r→g:=by first|exact Xj rfl rfl (by decide) (XP rfl rfl rfl (congrArg some (Xb5 (by omega))))|fail):g:=h k
theorem ZC {g r:Prop}(k:r)(h:r→g:=by first|exact Xj rfl rfl (by decide) (XhN rfl rfl rfl (by omega))|fail):g:=h k
theorem ZD {g r:Prop}(k:r)(h:r→g:=by first|exact XnM hG rfl rfl (by decide) rfl rfl|fail):g:=h k
theorem ZE {g:Prop}(h:g:=by exact XJ rfl rfl (.refl _) (.v _) rfl):g:=h
theorem ZF {g r:Prop}(k:r)(h:r→g:=by first|exact Y_q rfl rfl rfl (by decide) (Xas rfl rfl)|fail):g:=h k
theorem ZG {g r:Prop}(k:r)(h:r→g:=by first|exact Y_q rfl rfl rfl (by decide) (XaJ rfl rfl)|fail):g:=h k
theorem ZH {g r:Prop}(k:r)(h:r→g:=by first|exact XmX|fail):g:=h k
theorem ZI {g r:Prop}(k:r)(h:r→g:=by first|exact XmU hG rfl rfl (by decide) rfl rfl rfl|fail):g:=h k
theorem ZJ {g r:Prop}(k:r)(h:r→g:=by first|exact Xlr|fail):g:=h k
theorem ZK {g:Prop}(h:g:=by exact XJ rfl rfl (.refl _) (.v _) (by rw [← he]; rfl)):g:=h
theorem ZL {g r:Prop}(k:r)(h:r→g:=by first|exact XnJ hG rfl rfl (by decide) rfl rfl rfl rfl rfl rfl rfl rfl|fail):g:=h k
theorem ZM {g:Prop}(h:g:=by exact ⟨(), .cons rfl (.cons rfl (.cons rfl (.nil _))), hG⟩):g:=h
theorem ZN {g r:Prop}(k:r)(h:r→g:=by first|exact XiI|fail):g:=h k
theorem ZO {g r:Prop}(k:r)(h:r→g:=by first|exact Xj rfl rfl (by decide) (XsO rfl rfl)|fail):g:=h k
theorem ZP {g r:Prop}(k:r)(h:r→g:=by first|exact Y_q rfl rfl rfl (by decide) (XE rfl rfl rfl rfl)|fail):g:=h k
theorem ZQ {g r:Prop}(k:r)(h:r→g:=by first|exact Y_q rfl rfl rfl (by decide) (Xbe rfl rfl (by first | rfl | exact decide_eq_true (by omega) | exact Xb4 (by omega)) rfl)|fail):g:=h k
theorem ZR {g r:Prop}(k:r)(h:r→g:=by first|exact Xj rfl rfl (by decide) (Xm rfl rfl (hG.get 6 _ _ rfl) rfl)|fail):g:=h k
theorem ZS {g r:Prop}(k:r)(h:r→g:=by first|exact Xj rfl rfl (by decide) (XcW rfl rfl rfl)|fail):g:=h k
theorem ZT {g r:Prop}(k:r)(h:r→g:=by first|exact Xfh (XE rfl rfl rfl rfl) rfl (by decide) rfl rfl rfl rfl (by decide)|fail):g:=h k
theorem ZU {g r:Prop}(k:r)(h:r→g:=by first|exact XhR|fail):g:=h k
theorem ZV {g r:Prop}(k:r)(h:r→g:=by first|exact Xfh (Xm rfl rfl (hG.get 0 _ _ rfl) rfl) rfl (by decide) rfl rfl rfl rfl (by decide)|fail):g:=h k
theorem ZW {g r:Prop}(k:r)(h:r→g:=by first|exact Y_gn rfl (by decide) rfl rfl rfl rfl rfl (by decide)|fail):g:=h k
theorem ZX {g r:Prop}(k:r)(h:r→g:=by first|exact Xxk rfl rfl rfl rfl rfl (by decide)|fail):g:=h k
theorem ZY {g r:Prop}(k:r)(h:r→g:=by first|exact Y_q rfl rfl rfl (by decide) (Xbf rfl rfl (by first | rfl | exact decide_eq_false (by omega) | exact Xb5 (by omega)) rfl)|fail):g:=h k
theorem ZZ {g r:Prop}(k:r)(h:r→g:=by first|exact Xfh (XaJ rfl rfl) rfl (by decide) rfl rfl rfl rfl (by decide)|fail):g:=h k
theorem Z0 {g r:Prop}(k:r)(h:r→g:=by first|exact Y_q rfl rfl rfl (by decide) (XP rfl rfl rfl (congrArg some (decide_eq_true (by omega))))|fail):g:=h k
theorem Z1 {g r:Prop}(k:r)(h:r→g:=by first|exact Xfh (XaS rfl rfl rfl) rfl (by decide) rfl rfl rfl rfl (by decide)|fail):g:=h k
theorem Z2 {g r:Prop}(k:r)(h:r→g:=by first|exact Xr rfl rfl rfl rfl rfl rfl (by decide) hV tV|fail):g:=h k
theorem Z3 {g r:Prop}(k:r)(h:r→g:=by first|exact Xbl 1 hG rfl rfl (by decide) rfl rfl rfl rfl|fail):g:=h k
theorem Z4 {g r:Prop}(k:r)(h:r→g:=by first|exact Xfh (Xfd rfl rfl rfl (by omega)) rfl (by decide) rfl rfl rfl rfl (by decide)|fail):g:=h k
theorem Z5 {g r:Prop}(k:r)(h:r→g:=by first|exact Xj rfl rfl (by decide) (XcX rfl rfl rfl rfl)|fail):g:=h k
theorem Z6 {g r:Prop}(k:r)(h:r→g:=by first|exact Xj rfl rfl (by decide) (hSN rfl rfl rfl)|fail):g:=h k
theorem Z7 {g r:Prop}(k:r)(h:r→g:=by first|exact XoT [H1] H1 mixed (by decide +kernel) (N := 1) (by decide +kernel) rfl|fail):g:=h k
theorem Z8 {g r:Prop}(k:r)(h:r→g:=by first|exact Xj rfl rfl (by decide) (XP rfl rfl rfl rfl)|fail):g:=h k
theorem Z9 {g r:Prop}(k:r)(h:r→g:=by first|exact Y_v rfl rfl rfl (by decide) (fun _ => XE rfl rfl rfl rfl)|fail):g:=h k
theorem Zaa {g r:Prop}(k:r)(h:r→g:=by first|exact Xr rfl rfl rfl rfl rfl rfl (by decide) hI tI|fail):g:=h k
theorem Zab {g r:Prop}(k:r)(h:r→g:=by first|exact Xfh (XP rfl rfl rfl (congrArg some (decide_eq_false (by omega)))) rfl (by decide) rfl rfl rfl rfl (by decide)|fail):g:=h k
theorem Zac {g r:Prop}(k:r)(h:r→g:=by first|exact Y_q rfl rfl rfl (by decide) (XP rfl rfl rfl (congrArg some (decide_eq_false (by omega))))|fail):g:=h k
theorem Zad {g r:Prop}(k:r)(h:r→g:=by first|exact Xj rfl rfl (by decide) (XaI rfl rfl rfl)|fail):g:=h k
theorem Zae {g r:Prop}(k:r)(h:r→g:=by first|exact Y_q rfl rfl rfl (by decide) (Xm rfl rfl (hG.get 0 _ _ rfl) rfl)|fail):g:=h k
theorem Zaf {g:Prop}(h:g:=by exact XJ rfl rfl (.refl _) (.v _) (by rw [hf]; rfl)):g:=h
theorem Zag {g r:Prop}(k:r)(h:r→g:=by first|exact Xj rfl rfl (by decide) (XhM a rfl rfl rfl (by omega) (by exact ha))|fail):g:=h k
theorem Zah {g r:Prop}(k:r)(h:r→g:=by first|exact Y_q rfl rfl rfl (by decide) (Xm rfl rfl (hG.get 1 _ _ rfl) rfl)|fail):g:=h k
theorem Zai {g r:Prop}(k:r)(h:r→g:=by first|exact Y_q rfl rfl rfl (by decide) (Xet rfl rfl)|fail):g:=h k
theorem Zaj {g r:Prop}(k:r)(h:r→g:=by first|exact Y_q rfl rfl rfl (by decide) (Xm rfl rfl (hG.get 6 _ _ rfl) rfl)|fail):g:=h k
theorem Zak {g r:Prop}(k:r)(h:r→g:=by first|exact Y_v rfl rfl rfl (by decide) (fun _ => XaS rfl rfl rfl)|fail):g:=h k
theorem Zal {g r:Prop}(k:r)(h:r→g:=by first|exact Xr rfl rfl rfl rfl rfl rfl (by decide) hK tK|fail):g:=h k
theorem Zam {g r:Prop}(k:r)(h:r→g:=by first|exact Xr rfl rfl rfl rfl rfl rfl (by decide) hk tk|fail):g:=h k
theorem Zan {g r:Prop}(k:r)(h:r→g:=by first|exact Xr rfl rfl rfl rfl rfl rfl (by decide) hk ht|fail):g:=h k
theorem Zao {g r:Prop}(k:r)(h:r→g:=by first|exact Y_q rfl rfl rfl (by decide) (XcF (XcQ .i64) rfl rfl rfl (hG.get 4 _ _ rfl) rfl (by exact u3))|fail):g:=h k
theorem Zap {g r:Prop}(k:r)(h:r→g:=by first|exact Y_q rfl rfl rfl (by decide) (XaI rfl rfl rfl)|fail):g:=h k
theorem Zaq {g r:Prop}(k:r)(h:r→g:=by first|exact Xj rfl rfl (by decide) (Xm rfl rfl (hG.get 7 _ _ rfl) rfl)|fail):g:=h k
theorem Zar {g r:Prop}(k:r)(h:r→g:=by first|exact Xfh (Xf (cells := l.flatMap Xt) rfl rfl rfl (by omega) (by exact o2)) rfl (by decide) rfl rfl rfl rfl (by decide)|fail):g:=h k
theorem Zas {g r:Prop}(k:r)(h:r→g:=by first|exact Y_q rfl rfl rfl (by decide) (XaS rfl rfl rfl)|fail):g:=h k
theorem Zat {g:Prop}(h:g:=by exact Xpz rfl rfl rfl rfl (.refl _) (.refl _) (.refl _) (.v _) (.v _) (.v _) rfl):g:=h
theorem Zau {g r:Prop}(k:r)(h:r→g:=by first|exact Y_v rfl rfl rfl (by decide) (fun _ => Xas rfl rfl)|fail):g:=h k
theorem Zav {g:Prop}(h:g:=by exact XJ rfl rfl (.refl _) (Xe _) rfl):g:=h
theorem Zaw {g r:Prop}(k:r)(h:r→g:=by first|exact XAZ 1 (by decide +kernel) (by decide +kernel) rfl rfl rfl rfl (by decide) (XAO rfl rfl rfl rfl hI (.cons (.own hG1 (k := 0) rfl rfl) .nil) tI)|fail):g:=h k
theorem Zax {g:Prop}(h:g:=by exact XG rfl rfl ⟨by rw [← he]; rfl, out [(b11, ⟨[I h.ins, I h.move, Xy h.dels, Xx h.lyrs], 41, true⟩), (b5, ⟨XN h, 43, true⟩), (b4, ⟨[I e0], 3, true⟩), (b3, ⟨[.ptr c.ic 0], 107, true⟩)] hG⟩):g:=h
theorem Zay {g r:Prop}(k:r)(h:r→g:=by first|exact Xge rfl rfl|fail):g:=h k
theorem Zaz {g r:Prop}(k:r)(h:r→g:=by first|exact Xr rfl rfl rfl rfl rfl rfl (by decide) hF tF|fail):g:=h k
theorem ZaA {g:Prop}(h:g:=by exact XG rfl rfl ⟨rfl, rfl⟩):g:=h
theorem ZaB {g:Prop}(h:g:=by exact ⟨(), .cons rfl (.cons rfl (.cons rfl (.cons rfl (.cons rfl (.cons rfl (.nil _)))))), hG⟩):g:=h
theorem ZaC {g r:Prop}(k:r)(h:r→g:=by first|exact Xlp|fail):g:=h k
theorem ZaD {g r:Prop}(k:r)(h:r→g:=by first|exact XjS|fail):g:=h k
theorem ZaE {g r:Prop}(k:r)(h:r→g:=by first|exact XD 1 hG rfl|fail):g:=h k
theorem ZaF {g r:Prop}(k:r)(h:r→g:=by first|exact XJ rfl rfl (.refl _) (.v _)|fail):g:=h k
theorem ZaG {g r:Prop}(k:r)(h:r→g:=by first|exact Xfh (XP rfl rfl rfl (congrArg some (decide_eq_true (by omega)))) rfl (by decide) rfl rfl rfl rfl (by decide)|fail):g:=h k
theorem ZaH {g r:Prop}(k:r)(h:r→g:=by first|exact Xj rfl rfl (by decide) (Xc9 rfl rfl)|fail):g:=h k
theorem ZaI {g r:Prop}(k:r)(h:r→g:=by first|exact Xrb rfl rfl rfl rfl (by decide)|fail):g:=h k
theorem ZaJ {g r:Prop}(k:r)(h:r→g:=by first|exact Xfj rfl rfl|fail):g:=h k
theorem ZaK {g:Prop}(h:g:=by exact XG rfl rfl ⟨id, rfl, hG.get 0 _ _ rfl⟩):g:=h
theorem ZaL {g r:Prop}(k:r)(h:r→g:=by first|exact Xag 0 hG rfl rfl (by decide) rfl rfl rfl rfl rfl rfl rfl rfl rfl (by exact ho) (by omega) (by omega)|fail):g:=h k
theorem ZaM {g:Prop}(h:g:=by exact XG rfl rfl ⟨id2, rfl, hG.get 0 _ _ rfl⟩):g:=h
theorem ZaN {g r:Prop}(k:r)(h:r→g:=by first|exact Y_v rfl rfl rfl (by decide) (fun _ => XaJ rfl rfl)|fail):g:=h k
theorem ZaO {g r:Prop}(k:r)(h:r→g:=by first|exact Xb Tryz.func180 rfl rfl rfl|fail):g:=h k
theorem ZaP {g r:Prop}(k:r)(h:r→g:=by first|exact F_v rfl rfl rfl rfl (by decide) (fun _ => XE rfl rfl rfl rfl)|fail):g:=h k
theorem ZaQ {g r:Prop}(k:r)(h:r→g:=by first|exact Xj rfl rfl (by decide) (ho rfl rfl rfl)|fail):g:=h k
theorem ZaR {g r:Prop}(k:r)(h:r→g:=by first|exact Y_q rfl rfl rfl (by decide) (XP rfl rfl rfl (congrArg some (Xb5 (by omega))))|fail):g:=h k
theorem ZaS {g r:Prop}(k:r)(h:r→g:=by first|exact Xr rfl rfl rfl rfl rfl rfl (by decide) hC tC|fail):g:=h k
theorem ZaT {g r:Prop}(k:r)(h:r→g:=by first|exact Y_w 0 (by decide +kernel) rfl rfl rfl rfl (by decide) (Xbd rfl rfl rfl rfl rfl rfl rfl rfl) e3|fail):g:=h k
theorem ZaU {g r:Prop}(k:r)(h:r→g:=by first|exact Xr rfl rfl rfl rfl rfl rfl (by decide) hN tN|fail):g:=h k
theorem ZaV {g:Prop}(h:g:=by exact ⟨i + 1, by omega, .cons rfl (.cons rfl (.cons rfl (.cons rfl (.nil _)))), by omega, he⟩):g:=h
theorem ZaW {g r:Prop}(k:r)(h:r→g:=by first|exact XdV (fun hb => by subst hb; exact XE rfl rfl rfl rfl) rfl rfl rfl rfl rfl (by decide)|fail):g:=h k
theorem ZaX {g r:Prop}(k:r)(h:r→g:=by first|exact XdV (fun hb => by subst hb; exact Xm rfl rfl (hG.get 0 _ _ rfl) rfl) rfl rfl rfl rfl rfl (by decide)|fail):g:=h k
theorem ZaY {g r:Prop}(k:r)(h:r→g:=by first|exact XdV (fun hb => by subst hb; exact Xm rfl rfl (hG.get 1 _ _ rfl) rfl) rfl rfl rfl rfl rfl (by decide)|fail):g:=h k
theorem ZaZ {g r:Prop}(k:r)(h:r→g:=by first|exact Xxg rfl rfl (by decide) (Xw0 rfl rfl (fun hb => by subst hb; rfl) rfl)|fail):g:=h k
theorem Za0 {g r:Prop}(k:r)(h:r→g:=by first|exact XbI 0 hG rfl rfl rfl rfl rfl rfl rfl (by exact hone) rfl rfl rfl|fail):g:=h k
theorem Za1 {g r:Prop}(k:r)(h:r→g:=by first|exact Y_q rfl rfl rfl (by decide) (XP rfl rfl rfl (congrArg some (Xb4 (by omega))))|fail):g:=h k
theorem Za2 {g:Prop}(h:g:=by exact ⟨(), .cons rfl (.cons rfl (.cons rfl (.cons rfl (.cons rfl (.cons rfl (.cons rfl (.nil _))))))), hG⟩):g:=h
theorem Za3 {g r:Prop}(k:r)(h:r→g:=by first|exact Y_k rfl rfl rfl (by decide) (fun _ => Iso.K rfl rfl rfl rfl hW tW)|fail):g:=h k
theorem Za4 {g:Prop}(h:g:=by exact XJ rfl rfl (.refl _) (.v _) (by rw [hf])):g:=h
theorem Za5 {g r:Prop}(k:r)(h:r→g:=by first|exact XbI 1 hG rfl rfl rfl rfl rfl rfl rfl rfl rfl rfl rfl|fail):g:=h k
theorem Za6 {g r:Prop}(k:r)(h:r→g:=by first|exact Y_s 0 (by decide +kernel) rfl rfl rfl rfl (Xap rfl rfl rfl (hG.get 0 _ _ rfl) rfl rfl rfl rfl rfl) e1|fail):g:=h k
theorem Za7 {g r:Prop}(k:r)(h:r→g:=by first|exact Y_v rfl rfl rfl (by decide) (fun _ => XcX rfl rfl rfl rfl)|fail):g:=h k
theorem Za8 {g r:Prop}(k:r)(h:r→g:=by first|exact Xr rfl rfl rfl rfl rfl rfl (by decide) (hwf _) (tw _ _)|fail):g:=h k
theorem Za9 {g r:Prop}(k:r)(h:r→g:=by first|exact Xfh (Xm rfl rfl (hG.get 6 _ _ rfl) rfl) rfl (by decide) rfl rfl rfl rfl (by decide)|fail):g:=h k
theorem Zba {g r:Prop}(k:r)(h:r→g:=by first|exact Xfh (Xm rfl rfl (hG.get 9 _ _ rfl) rfl) rfl (by decide) rfl rfl rfl rfl (by decide)|fail):g:=h k
theorem Zbb {g r:Prop}(k:r)(h:r→g:=by first|exact Xfh (XcF (XcQ .i64) rfl rfl rfl (hG.get 3 _ _ rfl) rfl (by exact u3)) rfl (by decide) rfl rfl rfl rfl (by decide)|fail):g:=h k
theorem Zbc {g r:Prop}(k:r)(h:r→g:=by first|exact Xfh (XaI rfl rfl rfl) rfl (by decide) rfl rfl rfl rfl (by decide)|fail):g:=h k
theorem Zbd {g r:Prop}(k:r)(h:r→g:=by first|exact Xfh (Xet rfl rfl) rfl (by decide) rfl rfl rfl rfl (by decide)|fail):g:=h k
theorem Zbe {g r:Prop}(k:r)(h:r→g:=by first|exact Y_q rfl rfl rfl (by decide) (Xm rfl rfl (hG.get 10 _ _ rfl) rfl)|fail):g:=h k
theorem Zbf {g r:Prop}(k:r)(h:r→g:=by first|exact F_v rfl rfl rfl rfl (by decide) (fun _ => XaJ rfl rfl)|fail):g:=h k
theorem Zbg {g:Prop}(h:g:=by exact ⟨i + 1, by omega, .cons rfl (.cons rfl (.cons rfl (.cons rfl (.cons rfl (.nil _))))), by omega, he⟩):g:=h
theorem Zbh {g r:Prop}(k:r)(h:r→g:=by first|exact Xbl 2 hG rfl rfl (by decide) rfl rfl rfl rfl|fail):g:=h k
theorem Zbi {g:Prop}(h:g:=by exact XJ rfl rfl (.refl _) (XX _) rfl):g:=h
theorem Zbj {g:Prop}(h:g:=by exact ⟨i + 1, by omega, .cons rfl (.cons rfl (.cons rfl (.nil _))), by omega, hf, hG⟩):g:=h
theorem Zbk {g:Prop}(h:g:=by exact Xg0 rfl rfl rfl (.refl _) (.refl _) (.v _) (.v _) rfl):g:=h
theorem Zbl {g r:Prop}(k:r)(h:r→g:=by first|exact Xj rfl rfl (by decide) (Xf (cells := l.flatMap XbY) rfl rfl rfl (by omega) (by exact o1))|fail):g:=h k
theorem Zbm {g:Prop}(h:g:=by exact XJ rfl rfl (.refl _) (XcJ _) rfl):g:=h
theorem Zbn {g r:Prop}(k:r)(h:r→g:=by first|exact Xr rfl rfl rfl rfl rfl rfl (by decide) hEx (TreeL.cons (Xi.agg tx) TreeL.nil)|fail):g:=h k
theorem Zbo {g:Prop}(h:g:=by exact ⟨(i + 1, o2), by simp only; omega, .cons rfl (.cons rfl (.cons rfl (.cons rfl (.cons rfl (.nil _))))), by simp only; omega, hG⟩):g:=h
theorem Zbp {g:Prop}(h:g:=by exact XG rfl rfl ⟨o, rfl, hG.get 0 _ _ rfl⟩):g:=h
theorem Zbq {g r:Prop}(k:r)(h:r→g:=by first|exact Y_r 0 (by decide +kernel) (by decide +kernel) rfl rfl rfl rfl (by decide) (Xm rfl rfl (hG.get 1 _ _ rfl) rfl)|fail):g:=h k
theorem Zbr {g r:Prop}(k:r)(h:r→g:=by first|exact Y_k rfl rfl rfl (by decide) (fun _ => Iso.K rfl rfl rfl rfl hh (TreeL.cons (Xi.agg (Xah _)) TreeL.nil))|fail):g:=h k
theorem Zbs {g:Prop}(h:g:=by exact XG rfl rfl ⟨rfl, hG⟩):g:=h
theorem Zbt {g r:Prop}(k:r)(h:r→g:=by first|exact Xxc 0 rfl (by decide +kernel) (by decide +kernel) rfl rfl rfl rfl (by decide) (Xm rfl rfl (hG.get 0 _ _ rfl) rfl)|fail):g:=h k
theorem Zbu {g r:Prop}(k:r)(h:r→g:=by first|exact F_v rfl rfl rfl rfl (by decide) (fun _ => XaI rfl rfl rfl)|fail):g:=h k
theorem Zbv {g r:Prop}(k:r)(h:r→g:=by first|exact Xj rfl rfl (by decide) (Xf (cells := l.flatMap Xl) rfl rfl rfl (by omega) (by exact hc))|fail):g:=h k
theorem Zbw {g r:Prop}(k:r)(h:r→g:=by first|exact Y_v rfl rfl rfl (by decide) (fun _ => XP rfl rfl rfl rfl)|fail):g:=h k
theorem Zbx {g r:Prop}(k:r)(h:r→g:=by first|exact Y_v rfl rfl rfl (by decide) (fun _ => XdS rfl rfl rfl)|fail):g:=h k
theorem Zby {g r:Prop}(k:r)(h:r→g:=by first|exact Xj rfl rfl (by decide) (hSE rfl rfl rfl)|fail):g:=h k
theorem Zbz {g r:Prop}(k:r)(h:r→g:=by first|exact Xj rfl rfl (by decide) (Xbz rfl rfl rfl)|fail):g:=h k
theorem ZbA {g r:Prop}(k:r)(h:r→g:=by first|exact Xj rfl rfl (by decide) (Xf (cells := l.flatMap Xt) rfl rfl rfl (by omega) (by exact ho))|fail):g:=h k
theorem ZbB {g:Prop}(h:g:=by exact Xbx hr (List.all_eq_true.1 h1 _ (by simp))):g:=h
theorem ZbC {g:Prop}(h:g:=by exact hR.inj j id C B _ _ _ _ _ _ n1 e hB hoj hown hmj hm rfl):g:=h
theorem ZbD {g:Prop}(h:g:=by exact ⟨_, m', _, hexec _ _ (by simpa using hg), g1, g2, by simpa using g3⟩):g:=h
theorem ZbE {g r:Prop}(k:r)(h:r→g:=by first|exact Xj rfl rfl (by decide) (Xf (cells := l.map I) rfl rfl rfl (by omega) (by exact hc))|fail):g:=h k
theorem ZbF {g r:Prop}(k:r)(h:r→g:=by first|exact Xj rfl rfl (by decide) (XfF rfl rfl rfl)|fail):g:=h k
theorem ZbG {g r:Prop}(k:r)(h:r→g:=by first|exact Xpz rfl rfl rfl rfl (.refl _) (.refl _) (.refl _) (.v _) (.v _) (.v _)|fail):g:=h k
theorem ZbH {g r:Prop}(k:r)(h:r→g:=by first|exact Xr rfl rfl rfl rfl rfl rfl (by decide) hls (TreeL.cons (Xi.agg (Xdu _)) (TreeL.cons (Xe _) TreeL.nil))|fail):g:=h k
theorem ZbI {g:Prop}(h:g:=by exact XJ rfl rfl (.own hG (k := 0) rfl rfl) (XW [1]) rfl):g:=h
theorem ZbJ {g r:Prop}(k:r)(h:r→g:=by first|exact Xr rfl rfl rfl rfl rfl rfl (by decide) hf (TreeL.cons (Xe _) TreeL.nil)|fail):g:=h k
theorem ZbK {g r:Prop}(k:r)(h:r→g:=by first|exact Xfh (Xf (cells := l.flatMap Xa1) rfl rfl rfl (by omega) (by exact o2)) rfl (by decide) rfl rfl rfl rfl (by decide)|fail):g:=h k
theorem ZbL {g r:Prop}(k:r)(h:r→g:=by first|exact Xj rfl rfl (by decide) (Xf (cells := l.flatMap Xt) rfl rfl rfl (by omega) (by exact hc))|fail):g:=h k
theorem ZbM {g r:Prop}(k:r)(h:r→g:=by first|exact Xj rfl rfl (by decide) (Xfd rfl rfl rfl (by omega))|fail):g:=h k
theorem ZbN {g:Prop}(h:g:=by exact ⟨i + 1, by omega, .cons rfl (.cons rfl (.cons rfl (.cons rfl (.nil _)))), by omega, hG⟩):g:=h
theorem ZbO {g r:Prop}(k:r)(h:r→g:=by first|exact XJ rfl rfl (.refl _) (XcJ _)|fail):g:=h k
theorem ZbP {g r:Prop}(k:r)(h:r→g:=by first|exact Xj rfl rfl (by decide) (XcF (XcQ .i64) rfl rfl rfl (hG.get 1 _ _ rfl) rfl (by exact a1 v))|fail):g:=h k
theorem ZbQ {g r:Prop}(k:r)(h:r→g:=by first|exact Xr rfl rfl rfl rfl rfl rfl (by decide) hin tin|fail):g:=h k
theorem ZbR {g:Prop}(h:g:=by exact XG rfl rfl ⟨by rw [← he]; rfl, ⟨es, el', er, eb, eu, ts, tl, tr, tb, tu, hG.tail, a1, a2, a3, a4, a5⟩⟩):g:=h
theorem ZbS {g:Prop}(h:g:=by exact ⟨(), .cons rfl (.cons rfl (.cons rfl (.nil _))), hG, c9, he⟩):g:=h
theorem ZbT {g:Prop}(h:g:=by exact XG rfl rfl ⟨by rw [← he]; rfl, out [(b11, ⟨[I h.ins, I h.move, Xy h.dels, Xx h.lyrs], 41, true⟩), (b5, ⟨XN h, 43, true⟩), (b4, ⟨[I e0], 3, true⟩), (b3, ⟨[.ptr c.ic 0], 107, true⟩)] hG.tail⟩):g:=h
theorem ZbU {g r:Prop}(k:r)(h:r→g:=by first|exact Xj rfl rfl (by decide) (Xf (cells := l.flatMap Xl) rfl rfl rfl (by omega) (by exact ho))|fail):g:=h k
theorem ZbV {g r:Prop}(k:r)(h:r→g:=by first|exact Xag 1 hG rfl rfl (by decide) rfl rfl rfl rfl rfl rfl rfl rfl (hG.cellsOf (k := 0) rfl rfl) rfl (by decide) (by decide)|fail):g:=h k
theorem ZbW {g:Prop}(h:g:=by exact XG rfl rfl ⟨lo2, rfl, hG.tail⟩):g:=h
theorem ZbX {g r:Prop}(k:r)(h:r→g:=by first|exact Xr rfl rfl rfl rfl rfl rfl (by decide) hia tia|fail):g:=h k
theorem ZbY {g r:Prop}(k:r)(h:r→g:=by first|exact Y_v rfl rfl rfl (by decide) (fun _ => OpV.same (XmN rfl rfl rfl) hmin)|fail):g:=h k
theorem ZbZ {g r:Prop}(k:r)(h:r→g:=by first|exact Y_v rfl rfl rfl (by decide) (fun _ => Xc9 rfl rfl)|fail):g:=h k
theorem Zb0 {g r:Prop}(k:r)(h:r→g:=by first|exact Y_k rfl rfl rfl (by decide) (fun _ => Iso.K rfl rfl rfl rfl hA tA)|fail):g:=h k
theorem Zb1 {g:Prop}(h:g:=by exact ⟨(), .cons rfl (.cons rfl (.cons rfl (.nil _))), hG, he⟩):g:=h
theorem Zb2 {g:Prop}(h:g:=by exact XcN rfl rfl (XaR (hG.get 0 _ _ rfl)) (.refl _) (Xi.v _) (by rw [← hq]; rfl)):g:=h
theorem Zb3 {g r:Prop}(k:r)(h:r→g:=by first|exact Xr rfl rfl rfl rfl rfl rfl (by decide) hp t1|fail):g:=h k
theorem Zb4 {g r:Prop}(k:r)(h:r→g:=by first|exact Xr rfl rfl rfl rfl rfl rfl (by decide) ha tl|fail):g:=h k
theorem Zb5 {g:Prop}(h:g:=by exact ⟨v, by simpa using hv, hr'.mono h.rk hle1, h1v⟩):g:=h
theorem Zb6 {g:Prop}(h:g:=by exact ⟨_, _, rfl, by rw [Addr.add_mk, Nat.add_assoc]; exact .ptr hb⟩):g:=h
theorem Zb7 {g:Prop}(h:g:=by exact .v _ (by revert this; generalize zv.cells[j % zv.cells.size] = y; intro this; cases y <;> first | rfl | (simp [Value.oneCell'] at this))):g:=h
theorem Zb8 {g:Prop}(h:g:=by exact Nat.lt_of_lt_of_le (Nat.lt_succ_self _) (Nat.le_of_ble_eq_true this)):g:=h
theorem Zb9 {g:Prop}(h:g:=by exact ⟨fun h => by rw [if_pos h] at this; exact this, fun h => by rw [if_neg (by omega)] at this; exact this⟩):g:=h
theorem Zca {g:Prop}(h:g:=by exact ⟨this.1.1, Nat.lt_of_lt_of_le (Nat.lt_succ_self _) (Nat.le_of_ble_eq_true this.1.2), this.2⟩):g:=h
theorem Zcb {g:Prop}(h:g:=by exact hr1 j oj t q (hbefi j this (by omega)) h2 h3 h4):g:=h
theorem Zcc {g:Prop}(h:g:=by exact ⟨hb.1, hbefi j hb.2 (Nat.ne_of_lt (ho.irr i j hb.2))⟩):g:=h
theorem Zcd {g:Prop}(h:g:=by exact ⟨u, by rw [cell_of_row w b _ cur B.elem (0, 0) c1, ← hu]; congr 1; omega, hru⟩):g:=h
theorem Zce {g r:Prop}(k:r)(h:r→g:=by first|exact XdV (fun hb => by subst hb; exact XP rfl rfl rfl rfl) rfl rfl rfl rfl rfl (by decide)|fail):g:=h k
theorem Zcf {g r:Prop}(k:r)(h:r→g:=by first|exact Xr rfl rfl rfl rfl rfl rfl (by decide) hE (TreeL.cons (Xi.agg tf) (TreeL.cons (Xi.agg tg) TreeL.nil))|fail):g:=h k
theorem Zcg {g r:Prop}(k:r)(h:r→g:=by first|exact Xr rfl rfl rfl rfl rfl rfl (by decide) ht tU|fail):g:=h k
theorem Zch {g r:Prop}(k:r)(h:r→g:=by first|exact Xj rfl rfl (by decide) (Xaa rfl rfl (by exact hw))|fail):g:=h k
theorem Zci {g r:Prop}(k:r)(h:r→g:=by first|exact Xr rfl rfl rfl rfl rfl rfl (by decide) (Xok _) (TreeL.cons (Xe _) TreeL.nil)|fail):g:=h k
theorem Zcj {g:Prop}(h:g:=by exact ⟨i + 1, by omega, .cons rfl (.cons rfl (.cons rfl (.cons rfl (.nil _)))), by omega, hf, hG⟩):g:=h
theorem Zck {g r:Prop}(k:r)(h:r→g:=by first|exact Xj rfl rfl (by decide) (Xa7 rfl rfl rfl)|fail):g:=h k
theorem Zcl {g r:Prop}(k:r)(h:r→g:=by first|exact Xag 2 hG rfl rfl (by decide) rfl rfl rfl rfl rfl rfl hn rfl (hG.cellsOf (k := 0) rfl rfl) (by exact ox) (by omega) (by omega)|fail):g:=h k
theorem Zcm {g r:Prop}(k:r)(h:r→g:=by first|exact Y_k rfl rfl rfl (by decide) (fun _ => Iso.K rfl rfl rfl rfl hf (TreeL.cons (XF _) TreeL.nil))|fail):g:=h k
theorem Zcn {g r:Prop}(k:r)(h:r→g:=by first|exact Xr rfl rfl rfl rfl rfl rfl (by decide) (hwt _) (tw _ _)|fail):g:=h k
theorem Zco {g r:Prop}(k:r)(h:r→g:=by first|exact Xj rfl rfl (by decide) (XcF (XcQ .i64) rfl rfl rfl (hG.get 5 _ _ rfl) rfl (by exact u5))|fail):g:=h k
theorem Zcp {g r:Prop}(k:r)(h:r→g:=by first|exact Xfh (Xf (cells := l.flatMap XaD) rfl rfl rfl (by omega) (by exact o2)) rfl (by decide) rfl rfl rfl rfl (by decide)|fail):g:=h k
theorem Zcq {g r:Prop}(k:r)(h:r→g:=by first|exact Xr rfl rfl rfl rfl rfl rfl (by decide) hW tW|fail):g:=h k
theorem Zcr {g r:Prop}(k:r)(h:r→g:=by first|exact Y_w 0 (by decide +kernel) rfl rfl rfl rfl (by decide) (Xbd rfl rfl rfl rfl rfl rfl rfl rfl) e1|fail):g:=h k
theorem Zcs {g r:Prop}(k:r)(h:r→g:=by first|exact X0 rfl rfl rfl rfl rfl rfl (by decide) hk|fail):g:=h k
theorem Zct {g r:Prop}(k:r)(h:r→g:=by first|exact Xj rfl rfl (by decide) (Xm rfl rfl (hG.get 8 _ _ rfl) rfl)|fail):g:=h k
theorem Zcu {g r:Prop}(k:r)(h:r→g:=by first|exact Xj rfl rfl (by decide) (Xm rfl rfl (hG.get 9 _ _ rfl) rfl)|fail):g:=h k
theorem Zcv {g r:Prop}(k:r)(h:r→g:=by first|exact Xfh (Xm rfl rfl (hG.get 7 _ _ rfl) rfl) rfl (by decide) rfl rfl rfl rfl (by decide)|fail):g:=h k
theorem Zcw {g r:Prop}(k:r)(h:r→g:=by first|exact Xfh (Xf (cells := h.dels.flatMap Xdc) rfl rfl rfl (by omega) (by exact o2)) rfl (by decide) rfl rfl rfl rfl (by decide)|fail):g:=h k
theorem Zcx {g r:Prop}(k:r)(h:r→g:=by first|exact Xj rfl rfl (by decide) (Xf (cells := l.flatMap XS) rfl rfl rfl (by omega) (by exact ho))|fail):g:=h k
theorem Zcy {g r:Prop}(k:r)(h:r→g:=by first|exact Xr rfl rfl rfl rfl rfl rfl (by decide) hhd th|fail):g:=h k
theorem Zcz {g r:Prop}(k:r)(h:r→g:=by first|exact Xj rfl rfl (by decide) (Xf (cells := r.flatMap XS) rfl rfl rfl (by omega) (by exact ho))|fail):g:=h k
theorem ZcA {g r:Prop}(k:r)(h:r→g:=by first|exact Xj rfl rfl (by decide) (Xf (cells := cs.flatMap XB) rfl rfl rfl (by omega) (by exact ho))|fail):g:=h k
theorem ZcB {g r:Prop}(k:r)(h:r→g:=by first|exact F_v rfl rfl rfl rfl (by decide) (fun _ => Xas rfl rfl)|fail):g:=h k
theorem ZcC {g r:Prop}(k:r)(h:r→g:=by first|exact X0 rfl rfl rfl rfl rfl rfl (by decide) (hh s _ K hJ hG)|fail):g:=h k
theorem ZcD {g:Prop}(h:g:=by exact ⟨(i + 1, s), by dsimp only; omega, .cons rfl (.cons rfl (.cons rfl (.cons rfl (.nil _)))), by dsimp only; omega, hJ, hG⟩):g:=h
theorem ZcE {g r:Prop}(k:r)(h:r→g:=by first|exact Xj rfl rfl (by decide) (OpV.same (Xgc rfl rfl rfl (by decide)) s0)|fail):g:=h k
theorem ZcF {g r:Prop}(k:r)(h:r→g:=by first|exact Xj rfl rfl (by decide) (Xaa rfl rfl w0)|fail):g:=h k
theorem ZcG {g r:Prop}(k:r)(h:r→g:=by first|exact Xj rfl rfl (by decide) (OpV.same (Xfe rfl rfl rfl) o0)|fail):g:=h k
theorem ZcH {g r:Prop}(k:r)(h:r→g:=by first|exact Xj rfl rfl (by decide) (OpV.same (XfF rfl rfl rfl) a1)|fail):g:=h k
theorem ZcI {g r:Prop}(k:r)(h:r→g:=by first|exact Xj rfl rfl (by decide) (Xaa rfl rfl w1)|fail):g:=h k
theorem ZcJ {g r:Prop}(k:r)(h:r→g:=by first|exact Xj rfl rfl (by decide) (OpV.same (Xfe rfl rfl rfl) o1)|fail):g:=h k
theorem ZcK {g:Prop}(h:g:=by exact ⟨(), .cons rfl (.cons rfl (.cons rfl (.cons rfl (.cons rfl (.nil _))))), hG⟩):g:=h
theorem ZcL {g:Prop}(h:g:=by exact XG rfl rfl ⟨by rw [← hf], by rw [← hf]; exact hq.cut [(b11, ⟨[I ii, Xn hh.props, I hh.ins, I hh.move, Xy hh.dels, Xx hh.lyrs, Xk ff], 96, true⟩), (b8, ⟨[Xn h.props, I h.ins, I h.move, Xy h.dels, Xx h.lyrs, Xau cs], 94, true⟩), (b5, ⟨Xax p, 113, true⟩)]⟩):g:=h
theorem ZcM {g r:Prop}(k:r)(h:r→g:=by first|exact Xj rfl rfl (by decide) (XoJ rfl rfl rfl)|fail):g:=h k
theorem ZcN {g:Prop}(h:g:=by exact ⟨s, .cons rfl (.cons rfl (.cons rfl (.nil _))), ⟨es, el, er, eb, eu, ts, tl, tr, tb, tu, hG, a1, a2, a3, a4, a5⟩, hq0⟩):g:=h
theorem ZcO {g r:Prop}(k:r)(h:r→g:=by first|exact Xxc 0 rfl (by decide +kernel) (by decide +kernel) rfl rfl rfl rfl (by decide) (Xm rfl rfl (hG.get 1 _ _ rfl) rfl)|fail):g:=h k
theorem ZcP {g r:Prop}(k:r)(h:r→g:=by first|exact XAZ 0 (by decide +kernel) (by decide +kernel) rfl rfl rfl rfl (by decide) (AC.K rfl rfl rfl rfl hA)|fail):g:=h k
theorem ZcQ {g:Prop}(h:g:=by exact ⟨(), .cons rfl (.cons rfl (.cons rfl (.nil _))), CkH.cut [(G.length, Blk.mk [I x, I y] 29 true)] hck1⟩):g:=h
theorem ZcR {g r:Prop}(k:r)(h:r→g:=by first|exact Xj rfl rfl (by decide) (Xf (cells := s.props.flatMap Xa1) rfl rfl rfl (by omega) (by exact o1))|fail):g:=h k
theorem ZcS {g r:Prop}(k:r)(h:r→g:=by first|exact Xj rfl rfl (by decide) (Xf (cells := j.map I) rfl rfl rfl (by omega) (by exact hcx))|fail):g:=h k
theorem ZcT {g:Prop}(h:g:=by exact ⟨h0, ⟨cur, h1, h2, h3, fun j c hj => let ⟨v, hv, hr, h1v⟩ := h4 j c hj; ⟨v, hv, hr.mono h.rk hle, h1v⟩⟩, h5⟩):g:=h
theorem ZcU {g:Prop}(h:g:=by exact h.inj i j B C _ _ _ _ _ _ hne (XdH hi) (XdH hj) ho1 ho2 (old i B _ hi hmi) (old j C _ hj hmj)):g:=h
theorem ZcV {g:Prop}(h:g:=by exact ⟨cur, a1, a2, a3, fun j c hj => let ⟨v, hv, hr, h1v⟩ := a4 j c hj; ⟨v, hv, hr.mono h.rk hle, h1v⟩⟩):g:=h
theorem ZcW {g:Prop}(h:g:=by exact h.inj i j C D _ _ _ _ _ _ hne (live i C _ hi hmi) (live j D _ hj hmj) ho1 ho2 hmi hmj):g:=h
theorem ZcX {g:Prop}(h:g:=by exact ⟨e₂, a₂, w₂, hq₂, .of_steps (StepsIn.trans harr (.one (fenced_calm hb hr rfl) stepR_inLoop)) harr₂⟩):g:=h
theorem ZcY {g:Prop}(h:g:=by exact ⟨u, by rw [cell_of_row w b _ cur B.elem.tid (0, 0) c1, ← hu]; congr 1; omega, hru⟩):g:=h
theorem ZcZ {g:Prop}(h:g:=by exact ⟨vs[j], by simp [Value.cells, hlt], by simpa [Array.getD_eq_getD_getElem?, hlt] using hh j c hj⟩):g:=h
theorem Zc0 {g:Prop}(h:g:=by exact ⟨x, rfl, .v x (by cases x <;> first | rfl | (simp [Value.oneCell'] at this))⟩):g:=h
theorem Zc1 {g:Prop}(h:g:=by exact ⟨u, by simpa using hu, hr, Xbx hr (List.all_eq_true.1 h1 c (List.mem_of_getElem? hj))⟩):g:=h
theorem Zc2 {g:Prop}(h:g:=by exact ⟨.slice none 0 0, m, w, hexec _ _ (XaV hu.u h3 none 0 0 (Nat.le_refl _) ay cy _), Le.refl m w, hR.ghost _, .sl0 none⟩):g:=h
theorem Zc3 {g:Prop}(h:g:=by exact ⟨.slice a 0 0, m, w, hexec _ _ (XaV hu.u h3 _ _ _ (Nat.le_refl _) ay cy _), Le.refl m w, (hR.kill id).ghost _, .sl0 a⟩):g:=h
theorem Zc4 {g r:Prop}(k:r)(h:r→g:=by first|exact XdV (fun hb => by subst hb; exact XwW rfl rfl rfl) rfl rfl rfl rfl rfl (by decide)|fail):g:=h k
theorem Zc5 {g r:Prop}(k:r)(h:r→g:=by first|exact XcH (fun hb => by subst hb; exact Iso.K rfl rfl rfl rfl (XeG h h') (TreeL.cons (Xi.agg (Xah _)) (TreeL.cons (Xi.agg (Xah _)) TreeL.nil))) rfl rfl rfl rfl rfl (by decide)|fail):g:=h k
theorem Zc6 {g r:Prop}(k:r)(h:r→g:=by first|exact XcH (fun hb => by subst hb; exact Iso.K rfl rfl rfl rfl (hF f') (TreeL.cons (XF _) (TreeL.cons (XF _) TreeL.nil))) rfl rfl rfl rfl rfl (by decide)|fail):g:=h k
theorem Zc7 {g:Prop}(h:g:=by exact ⟨i + 1, by omega, .cons rfl (.cons (by rw [e]; rfl) (.cons rfl (.cons rfl (.nil _)))), by omega, hG⟩):g:=h
theorem Zc8 {g r:Prop}(k:r)(h:r→g:=by first|exact Xj rfl rfl (by decide) (Xaa (b := (i : Int) + j) rfl rfl (by exact w1))|fail):g:=h k
theorem Zc9 {g r:Prop}(k:r)(h:r→g:=by first|exact Xj rfl rfl (by decide) (Xaa (b := (h : Int)) rfl rfl (by exact w2))|fail):g:=h k
theorem Zda {g r:Prop}(k:r)(h:r→g:=by first|exact Xr rfl rfl rfl rfl rfl rfl (by decide) hS (TreeL.cons (Xj4 _) (TreeL.cons (Xe _) (TreeL.cons (Xi.fn Xp) TreeL.nil)))|fail):g:=h k
theorem Zdb {g r:Prop}(k:r)(h:r→g:=by first|exact Xj rfl rfl (by decide) (Xf (cells := l.flatMap Xa1) rfl rfl rfl (by omega) (by exact o1))|fail):g:=h k
theorem Zdc {g:Prop}(h:g:=by exact ⟨i + 1, by omega, .cons rfl (.cons rfl (.cons rfl (.cons rfl (.cons rfl (.nil _))))), by omega, by rw [hf, hnx], Has.nil _⟩):g:=h
theorem Zdd {g r:Prop}(k:r)(h:r→g:=by first|exact Xr rfl rfl rfl rfl rfl rfl (by decide) hk (TreeL.cons (Xi.agg (XeX x)) hcap)|fail):g:=h k
theorem Zde {g r:Prop}(k:r)(h:r→g:=by first|exact Xj rfl rfl (by decide) (XhM b rfl rfl rfl (by omega) (by exact hb2))|fail):g:=h k
theorem Zdf {g r:Prop}(k:r)(h:r→g:=by first|exact Y_s 0 (by decide +kernel) rfl rfl rfl rfl (Xap rfl rfl rfl (hG.get 1 _ _ rfl) rfl rfl rfl rfl rfl) e1|fail):g:=h k
theorem Zdg {g r:Prop}(k:r)(h:r→g:=by first|exact Y_s 1 (by decide +kernel) rfl rfl rfl rfl (Xap rfl rfl rfl (hG1.get 1 _ _ rfl) rfl rfl rfl rfl rfl) e2|fail):g:=h k
theorem Zdh {g:Prop}(h:g:=by exact XcN rfl rfl (XaR (hG.get 0 _ _ rfl)) (.refl _) (Xi.agg (by rw [← XZ]; exact Xbr _)) rfl):g:=h
theorem Zdi {g r:Prop}(k:r)(h:r→g:=by first|exact Y_k rfl rfl rfl (by decide) (fun _ => Iso.K rfl rfl rfl rfl hf (TreeL.cons (XeZ _) (TreeL.cons (Xi.fn Xp) TreeL.nil)))|fail):g:=h k
theorem Zdj {g:Prop}(h:g:=by exact XcN rfl rfl (XaR (hG.get 0 _ _ rfl)) (.refl _) (Xi.agg (by rw [← X2]; exact Xbw _)) rfl):g:=h
theorem Zdk {g r:Prop}(k:r)(h:r→g:=by first|exact XoT [H1, H2, H3] H3 mixed (by decide +kernel) (N := 3) (by decide +kernel) rfl|fail):g:=h k
theorem Zdl {g r:Prop}(k:r)(h:r→g:=by first|exact Xj rfl rfl (by decide) (XcF (XcQ .i64) rfl rfl rfl (hG.get 2 _ _ rfl) rfl (by exact a2))|fail):g:=h k
theorem Zdm {g r:Prop}(k:r)(h:r→g:=by first|exact Xj rfl rfl (by decide) (XcF (XcQ .i64) rfl rfl rfl (hG.get 4 _ _ rfl) rfl (by exact u4))|fail):g:=h k
theorem Zdn {g:Prop}(h:g:=by exact XG rfl rfl ⟨by rw [← he], ⟨es, el', er, eb, eu, ts, tl, tr, tb, tu, by rw [← hxe] at hG; exact hG.tail, a1, a2, a3, a4, a5⟩⟩):g:=h
theorem Zdo {g r:Prop}(k:r)(h:r→g:=by first|exact Y_r 0 (by decide +kernel) (by decide +kernel) rfl rfl rfl rfl (by decide) (Xm rfl rfl (hG.get 0 _ _ rfl) rfl)|fail):g:=h k
theorem Zdp {g r:Prop}(k:r)(h:r→g:=by first|exact Xj rfl rfl (by decide) (Xf (cells := h.props.flatMap Xa1) rfl rfl rfl (by omega) (by exact o1))|fail):g:=h k
theorem Zdq {g r:Prop}(k:r)(h:r→g:=by first|exact X0 rfl rfl rfl rfl rfl rfl (by decide) (Xgh c s _ _ ⟨es, el, er, eb, eu, ts, tl, tr, tb, tu, hG.tail, a1, a2, a3, a4, a5⟩ p.key p.val)|fail):g:=h k
theorem Zdr {g:Prop}(h:g:=by exact ⟨i + 1, by omega, .cons rfl (.cons rfl (.cons rfl (.cons rfl (.cons rfl (.cons rfl (.nil _)))))), by omega, by rw [hnx]; exact hf, hG.tail⟩):g:=h
theorem Zds {g r:Prop}(k:r)(h:r→g:=by first|exact X0 rfl rfl rfl rfl rfl rfl (by decide) (hA _ ⟨es, el, er, eb, eu, ts, tl, tr, tb, tu, hG, a1, a2, a3, a4, a5⟩)|fail):g:=h k
theorem Zdt {g r:Prop}(k:r)(h:r→g:=by first|exact Xag 2 hG rfl rfl (by decide) rfl rfl rfl rfl rfl rfl hn rfl (hG.cellsOf (k := 0) rfl rfl) (by exact oy) (by omega) (by omega)|fail):g:=h k
theorem Zdu {g r:Prop}(k:r)(h:r→g:=by first|exact XD (C := ⟨[I k, I c, I d, S t, Xn h.props, I h.ins, I h.move, Xy h.dels, Xx h.lyrs, Xk f, X7 r], 46, true⟩) 5 hG rfl|fail):g:=h k
theorem Zdv {g r:Prop}(k:r)(h:r→g:=by first|exact Xag 1 hG rfl rfl (by decide) rfl rfl rfl rfl rfl rfl (Xek out) rfl (hG.cellsOf (k := 0) rfl rfl) rfl (by omega) (by omega)|fail):g:=h k
theorem Zdw {g:Prop}(h:g:=by exact ⟨o2, .cons (by dsimp only; rw [← hl2]; rfl) (.cons rfl (.cons rfl (.cons rfl (.cons rfl (.nil _))))), XbV hG.tail hm2⟩):g:=h
theorem Zdx {g r:Prop}(k:r)(h:r→g:=by first|exact XD (C := ⟨[Xn h2.props, I h2.ins, I h2.move, Xy h2.dels, Xx h2.lyrs, Xau cs], 94, true⟩) 7 hG rfl|fail):g:=h k
theorem Zdy {g r:Prop}(k:r)(h:r→g:=by first|exact XD (C := ⟨[I d3, Xn h3.props, I h3.ins, I h3.move, Xy h3.dels, Xx h3.lyrs, Xk f3], 96, true⟩) 9 hG rfl|fail):g:=h k
theorem Zdz {g r:Prop}(k:r)(h:r→g:=by first|exact Xag 1 hG rfl rfl (by decide) rfl rfl rfl rfl rfl rfl hn rfl (hG.cellsOf (k := 0) rfl rfl) rfl (by omega) (by omega)|fail):g:=h k
theorem ZdA {g r:Prop}(k:r)(h:r→g:=by first|exact Xag 2 hG rfl rfl (by decide) rfl rfl rfl rfl rfl rfl hn rfl (hG.cellsOf (k := 0) rfl rfl) rfl (by omega) (by omega)|fail):g:=h k
theorem ZdB {g r:Prop}(k:r)(h:r→g:=by first|exact Y_v rfl rfl rfl (by decide) (fun _ => Xa4 rfl rfl rfl rfl rfl (by omega))|fail):g:=h k
theorem ZdC {g r:Prop}(k:r)(h:r→g:=by first|exact Y_r 0 (by decide +kernel) (by decide +kernel) rfl rfl rfl rfl (by decide) (Xm rfl rfl (hG.get 2 _ _ rfl) rfl)|fail):g:=h k
theorem ZdD {g r:Prop}(k:r)(h:r→g:=by first|exact Xfh (OpV.same (Xfd rfl rfl rfl (by omega)) hm1) rfl (by decide) rfl rfl rfl rfl (by decide)|fail):g:=h k
theorem ZdE {g r:Prop}(k:r)(h:r→g:=by first|exact Xfh (Xa4 rfl rfl rfl rfl (by exact hqi) (by omega)) rfl (by decide) rfl rfl rfl rfl (by decide)|fail):g:=h k
theorem ZdF {g r:Prop}(k:r)(h:r→g:=by first|exact Xfh (Xm rfl rfl (hG.get 0 _ _ rfl) (by exact L0)) rfl (by decide) rfl rfl rfl rfl (by decide)|fail):g:=h k
theorem ZdG {g:Prop}(h:g:=by exact XcN rfl rfl (XaR (hG.get 0 _ _ rfl)) (.refl _) (Xi.agg (Xan (Xcq l st ls))) rfl):g:=h
theorem ZdH {g r:Prop}(k:r)(h:r→g:=by first|exact Xj rfl rfl (by decide) (XmM rfl rfl (hG.get 0 _ _ rfl) (by omega))|fail):g:=h k
theorem ZdI {g r:Prop}(k:r)(h:r→g:=by first|exact Y_q rfl rfl rfl (by decide) (XcV c rfl rfl rfl (by omega) (by exact hc))|fail):g:=h k
theorem ZdJ {g r:Prop}(k:r)(h:r→g:=by first|exact Xr rfl rfl rfl rfl rfl rfl (by decide) h76 (TreeL.cons (Xe _) TreeL.nil)|fail):g:=h k
theorem ZdK {g r:Prop}(k:r)(h:r→g:=by first|exact Xj rfl rfl (by decide) (XcV b rfl rfl rfl (by omega) (by exact hb'))|fail):g:=h k
theorem ZdL {g:Prop}(h:g:=by exact XG rfl rfl ⟨by rw [← hq0]; rfl, by rw [← hq0]; exact CkH.cut [(b5, ⟨Xax p, 113, true⟩)] ⟨es, el, er, eb, eu, ts, tl, tr, tb, tu, hG, a1, a2, a3, a4, a5⟩⟩):g:=h
theorem ZdM {g r:Prop}(k:r)(h:r→g:=by first|exact XtE rfl rfl rfl rfl rfl rfl (by decide) hT (.cons (.own hG (k := 0) rfl rfl) .nil) tT (fun p hp => ⟨_, hp⟩)|fail):g:=h k
theorem ZdN {g:Prop}(h:g:=by exact XG rfl rfl ⟨rfl, hq.cut [(b5, ⟨Xax p, 113, true⟩), (b4, ⟨Xbt k code i t h f r, 46, true⟩)]⟩):g:=h
theorem ZdO {g r:Prop}(k:r)(h:r→g:=by first|exact XjU [6] [H1] H1 mixed (by decide +kernel) (N := 1) (by decide +kernel) rfl|fail):g:=h k
theorem ZdP {g r:Prop}(k:r)(h:r→g:=by first|exact Y_v rfl rfl rfl (by decide) (fun _ => XP rfl rfl rfl (congrArg some (Xb5 (by omega))))|fail):g:=h k
theorem ZdQ {g r:Prop}(k:r)(h:r→g:=by first|exact Y_v rfl rfl rfl (by decide) (fun _ => Xbf rfl rfl (by first | rfl | exact decide_eq_false (by omega) | exact Xb5 (by omega)) rfl)|fail):g:=h k
theorem ZdR {g r:Prop}(k:r)(h:r→g:=by first|exact Xxb (fun _ => XE rfl rfl rfl rfl) rfl (by decide) rfl rfl rfl rfl (by decide)|fail):g:=h k
theorem ZdS {g r:Prop}(k:r)(h:r→g:=by first|exact Xxb (fun _ => XaS rfl rfl rfl) rfl (by decide) rfl rfl rfl rfl (by decide)|fail):g:=h k
theorem ZdT {g r:Prop}(k:r)(h:r→g:=by first|exact Y_v rfl rfl rfl (by decide) (fun _ => Xbe rfl rfl (by first | rfl | exact decide_eq_true (by omega) | exact Xb4 (by omega)) rfl)|fail):g:=h k
theorem ZdU {g r:Prop}(k:r)(h:r→g:=by first|exact Xr rfl rfl rfl rfl rfl rfl (by decide) hnm (TreeL.cons (XF _) TreeL.nil)|fail):g:=h k
theorem ZdV {g r:Prop}(k:r)(h:r→g:=by first|exact Xag 1 hG rfl rfl (by decide) rfl rfl rfl rfl rfl rfl hcl rfl (hG.cellsOf (k := 0) rfl rfl) rfl (by omega) (by omega)|fail):g:=h k
theorem ZdW {g r:Prop}(k:r)(h:r→g:=by first|exact Xj rfl rfl (by decide) (XcV p rfl rfl rfl (by omega) (by exact hb0))|fail):g:=h k
theorem ZdX {g r:Prop}(k:r)(h:r→g:=by first|exact Xag 2 hG rfl rfl (by decide) rfl rfl rfl rfl rfl rfl hcl rfl (hG.cellsOf (k := 0) rfl rfl) rfl (by omega) (by omega)|fail):g:=h k
theorem ZdY {g r:Prop}(k:r)(h:r→g:=by first|exact Y_q rfl rfl rfl (by decide) (Xlf (kl := .i64) (kh := .i64) (l := 0) (h := i) rfl rfl rfl rfl rfl (by omega) (by exact hsl))|fail):g:=h k
theorem ZdZ {g:Prop}(h:g:=by exact ⟨i + 1, by omega, .cons rfl (.cons rfl (.cons rfl (.cons rfl (.cons rfl (.nil _))))), by omega, hf, hG⟩):g:=h
theorem Zd0 {g:Prop}(h:g:=by exact ⟨⟨fun e => absurd e (by decide), fun e => absurd e (by decide), trivial, trivial⟩, trivial⟩):g:=h
theorem Zd1 {g r:Prop}(k:r)(h:r→g:=by first|exact XiL|exact X4|exact Xew|exact XjX|exact Xj rfl rfl (by decide) (XP rfl rfl rfl (congrArg some (decide_eq_true (by omega))))|exact Xj rfl rfl (by decide) (XP rfl rfl rfl (congrArg some (decide_eq_false (by omega))))|exact Xj rfl rfl (by decide) (XP rfl rfl rfl (congrArg some (Xb4 (by omega))))|exact Xj rfl rfl (by decide) (XP rfl rfl rfl (congrArg some (Xb5 (by omega))))|exact Xj rfl rfl (by decide) (XaJ rfl rfl)|exact Xj rfl rfl (by decide) (Xas rfl rfl)|exact Xj rfl rfl (by decide) (XhN rfl rfl rfl (by omega))|exact Xj rfl rfl (by decide) (XdS rfl rfl rfl)|exact Xj rfl rfl (by decide) (XE rfl rfl rfl rfl)|exact Xj rfl rfl (by decide) (XaS rfl rfl rfl)|exact Xj rfl rfl (by decide) (Xet rfl rfl)|exact Xj rfl rfl (by decide) (Xbe rfl rfl (by first | rfl | exact decide_eq_true (by omega)) rfl)|exact Xj rfl rfl (by decide) (Xbf rfl rfl (by first | rfl | exact decide_eq_false (by omega)) rfl)|exact Xbl 0 hG rfl rfl (by decide) rfl rfl rfl rfl|exact XmS rfl rfl rfl rfl rfl (by decide) (by first | rfl | exact decide_eq_true (by omega) | exact decide_eq_false (by omega) | exact Xb4 (by omega) | exact Xb5 (by omega))|exact XoS rfl rfl rfl rfl rfl (by decide) (by first | rfl | exact decide_eq_true (by omega) | exact decide_eq_false (by omega) | exact Xb4 (by omega) | exact Xb5 (by omega))|exact Xfj rfl (by first | rfl | exact decide_eq_true (by omega) | exact Xb4 (by omega))|exact Xge rfl (by first | rfl | exact decide_eq_false (by omega) | exact Xb5 (by omega))|exact XiM|exact XmX|exact Xlt|exact Xh3|exact XgN|fail):g:=h k
theorem Zd2 {g r:Prop}(k:r)(h:r→g:=by first|exact Y_q rfl rfl rfl (by decide) (XP rfl rfl rfl (congrArg some (decide_eq_true (by omega))))|exact Y_q rfl rfl rfl (by decide) (XP rfl rfl rfl (congrArg some (decide_eq_false (by omega))))|exact Y_q rfl rfl rfl (by decide) (XaJ rfl rfl)|exact Y_q rfl rfl rfl (by decide) (Xas rfl rfl)|exact Y_q rfl rfl rfl (by decide) (XaI rfl rfl rfl)|exact Y_q rfl rfl rfl (by decide) (XE rfl rfl rfl rfl)|exact Y_q rfl rfl rfl (by decide) (XaS rfl rfl rfl)|exact Y_q rfl rfl rfl (by decide) (Xbe rfl rfl (by first | rfl | exact decide_eq_true (by omega) | exact Xb4 (by omega)) rfl)|exact Y_q rfl rfl rfl (by decide) (Xbf rfl rfl (by first | rfl | exact decide_eq_false (by omega) | exact Xb5 (by omega)) rfl)|exact Y_q rfl rfl rfl (by decide) (Xet rfl rfl)|exact Xfh (XP rfl rfl rfl (congrArg some (decide_eq_true (by omega)))) rfl (by decide) rfl rfl rfl rfl (by decide)|exact Xfh (XP rfl rfl rfl (congrArg some (decide_eq_false (by omega)))) rfl (by decide) rfl rfl rfl rfl (by decide)|exact Xfh (XaJ rfl rfl) rfl (by decide) rfl rfl rfl rfl (by decide)|exact Xfh (Xfd rfl rfl rfl (by omega)) rfl (by decide) rfl rfl rfl rfl (by decide)|exact Xfh (XE rfl rfl rfl rfl) rfl (by decide) rfl rfl rfl rfl (by decide)|exact Y_gn rfl (by decide) rfl rfl rfl rfl rfl (by decide)|exact Xfh (XaS rfl rfl rfl) rfl (by decide) rfl rfl rfl rfl (by decide)|exact XwU|fail):g:=h k
theorem Zd3 {g r:Prop}(k:r)(h:r→g:=by first|exact XiL|exact X4|exact Xew|exact Xj rfl rfl (by decide) (XaJ rfl rfl)|exact Xj rfl rfl (by decide) (Xas rfl rfl)|exact Xj rfl rfl (by decide) (XP rfl rfl rfl rfl)|exact Xj rfl rfl (by decide) (XE rfl rfl rfl rfl)|exact Xbl 0 hG rfl rfl (by decide) rfl rfl rfl rfl|exact Xbl 1 hG rfl rfl (by decide) rfl rfl rfl rfl|exact Xlt|fail):g:=h k
theorem Zd4 {g r:Prop}(k:r)(h:r→g:=by first|exact XdV (fun hb => by subst hb; exact XE rfl rfl rfl rfl) rfl rfl rfl rfl rfl (by decide)|exact XdV (fun hb => by subst hb; exact XP rfl rfl rfl rfl) rfl rfl rfl rfl rfl (by decide)|exact XdV (fun hb => by subst hb; exact Xm rfl rfl (hG.get 0 _ _ rfl) rfl) rfl rfl rfl rfl rfl (by decide)|exact XdV (fun hb => by subst hb; exact Xm rfl rfl (hG.get 1 _ _ rfl) rfl) rfl rfl rfl rfl rfl (by decide)|exact Xj rfl rfl (by decide) (XaJ rfl rfl)|exact Xj rfl rfl (by decide) (Xas rfl rfl)|fail):g:=h k
theorem Zd5 {g r:Prop}(k:r)(h:r→g:=by first|exact Xj rfl rfl (by decide) (XaJ rfl rfl)|exact Xj rfl rfl (by decide) (Xas rfl rfl)|exact Xj rfl rfl (by decide) (XE rfl rfl rfl rfl)|exact Xj rfl rfl (by decide) (XaS rfl rfl rfl)|exact Xj rfl rfl (by decide) (Xet rfl rfl)|exact Xj rfl rfl (by decide) (Xbf rfl rfl (by first | rfl | exact decide_eq_false (by omega)) rfl)|exact Xbl 0 hG rfl rfl (by decide) rfl rfl rfl rfl|exact XmS rfl rfl rfl rfl rfl (by decide) (by first | rfl | exact decide_eq_true (by omega) | exact decide_eq_false (by omega) | exact Xb4 (by omega) | exact Xb5 (by omega))|fail):g:=h k
theorem Zd6 {g r:Prop}(k:r)(h:r→g:=by first|exact Y_v rfl rfl rfl (by decide) (fun _ => XaJ rfl rfl)|exact Y_v rfl rfl rfl (by decide) (fun _ => Xas rfl rfl)|exact Y_v rfl rfl rfl (by decide) (fun _ => XdS rfl rfl rfl)|exact Y_v rfl rfl rfl (by decide) (fun _ => XE rfl rfl rfl rfl)|exact Y_v rfl rfl rfl (by decide) (fun _ => XaS rfl rfl rfl)|exact Y_v rfl rfl rfl (by decide) (fun _ => XcX rfl rfl rfl rfl)|exact XwU|fail):g:=h k
theorem Zd7 {g r:Prop}(k:r)(h:r→g:=by first|exact XiL|exact Xlr|exact X4|exact Xew|exact Xj rfl rfl (by decide) (XP rfl rfl rfl (congrArg some (decide_eq_true (by omega))))|exact Xj rfl rfl (by decide) (XP rfl rfl rfl (congrArg some (decide_eq_false (by omega))))|exact Xj rfl rfl (by decide) (XaJ rfl rfl)|exact Xj rfl rfl (by decide) (Xas rfl rfl)|exact Xj rfl rfl (by decide) (XE rfl rfl rfl rfl)|exact Xj rfl rfl (by decide) (Xbe rfl rfl (by first | rfl | exact decide_eq_true (by omega)) rfl)|exact Xj rfl rfl (by decide) (Xbf rfl rfl (by first | rfl | exact decide_eq_false (by omega)) rfl)|exact Xj rfl rfl (by decide) (XaS rfl rfl rfl)|exact Xbl 0 hG rfl rfl (by decide) rfl rfl rfl rfl|exact XmS rfl rfl rfl rfl rfl (by decide) (by first | rfl | exact decide_eq_true (by omega) | exact decide_eq_false (by omega) | exact Xb4 (by omega) | exact Xb5 (by omega))|exact XoS rfl rfl rfl rfl rfl (by decide) (by first | rfl | exact decide_eq_true (by omega) | exact decide_eq_false (by omega) | exact Xb4 (by omega) | exact Xb5 (by omega))|exact Xfj rfl (by first | rfl | exact decide_eq_true (by omega) | exact Xb4 (by omega))|exact Xge rfl (by first | rfl | exact decide_eq_false (by omega) | exact Xb5 (by omega))|exact XiM|fail):g:=h k
theorem Zd8 {g r:Prop}(k:r)(h:r→g:=by first|exact F_v rfl rfl rfl rfl (by decide) (fun _ => XaJ rfl rfl)|exact F_v rfl rfl rfl rfl (by decide) (fun _ => Xas rfl rfl)|exact F_v rfl rfl rfl rfl (by decide) (fun _ => XaI rfl rfl rfl)|exact F_v rfl rfl rfl rfl (by decide) (fun _ => XE rfl rfl rfl rfl)|exact XAQ|fail):g:=h k
