/- What the small functions of the program answer: code is right, copies, weights; the store of functions and types; no condition beyond bounds on lengths. -/
import Derived.Test.YtpppjcjdfhpepaaGreatDoorProg
import Derived.Test.YtpppjcjdfhpepaaGreatDoorMB
import Derived.Test.YtpppjcjdfhpepaaGreatDoorMC
namespace Go.Am
open Go.Proofs
noncomputable def infoT : T TypeInfo := .node (some Tryz.t0) (.node (some Tryz.t1) (.node (some Tryz.t3) (.node (some Tryz.t7) (.node (some Tryz.t15) (.node (some Tryz.t31) (.node (some Tryz.t63) (.node (some Tryz.t127) (.node (some Tryz.t255) .nil .nil) .nil) (.node (some Tryz.t191) (.node (some Tryz.t319) .nil .nil) .nil)) (.node (some Tryz.t95) (.node (some Tryz.t159) (.node (some Tryz.t287) .nil .nil) .nil) (.node (some Tryz.t223) .nil .nil))) (.node (some Tryz.t47) (.node (some Tryz.t79) (.node (some Tryz.t143) (.node (some Tryz.t271) .nil .nil) .nil) (.node (some Tryz.t207) (.node (some Tryz.t335) .nil .nil) .nil)) (.node (some Tryz.t111) (.node (some Tryz.t175) (.node (some Tryz.t303) .nil .nil) .nil) (.node (some Tryz.t239) .nil .nil)))) (.node (some Tryz.t23) (.node (some Tryz.t39) (.node (some Tryz.t71) (.node (some Tryz.t135) (.node (some Tryz.t263) .nil .nil) .nil) (.node (some Tryz.t199) (.node (some Tryz.t327) .nil .nil) .nil)) (.node (some Tryz.t103) (.node (some Tryz.t167) (.node (some Tryz.t295) .nil .nil) .nil) (.node (some Tryz.t231) .nil .nil))) (.node (some Tryz.t55) (.node (some Tryz.t87) (.node (some Tryz.t151) (.node (some Tryz.t279) .nil .nil) .nil) (.node (some Tryz.t215) (.node (some Tryz.t343) .nil .nil) .nil)) (.node (some Tryz.t119) (.node (some Tryz.t183) (.node (some Tryz.t311) .nil .nil) .nil) (.node (some Tryz.t247) .nil .nil))))) (.node (some Tryz.t11) (.node (some Tryz.t19) (.node (some Tryz.t35) (.node (some Tryz.t67) (.node (some Tryz.t131) (.node (some Tryz.t259) .nil .nil) .nil) (.node (some Tryz.t195) (.node (some Tryz.t323) .nil .nil) .nil)) (.node (some Tryz.t99) (.node (some Tryz.t163) (.node (some Tryz.t291) .nil .nil) .nil) (.node (some Tryz.t227) .nil .nil))) (.node (some Tryz.t51) (.node (some Tryz.t83) (.node (some Tryz.t147) (.node (some Tryz.t275) .nil .nil) .nil) (.node (some Tryz.t211) (.node (some Tryz.t339) .nil .nil) .nil)) (.node (some Tryz.t115) (.node (some Tryz.t179) (.node (some Tryz.t307) .nil .nil) .nil) (.node (some Tryz.t243) .nil .nil)))) (.node (some Tryz.t27) (.node (some Tryz.t43) (.node (some Tryz.t75) (.node (some Tryz.t139) (.node (some Tryz.t267) .nil .nil) .nil) (.node (some Tryz.t203) (.node (some Tryz.t331) .nil .nil) .nil)) (.node (some Tryz.t107) (.node (some Tryz.t171) (.node (some Tryz.t299) .nil .nil) .nil) (.node (some Tryz.t235) .nil .nil))) (.node (some Tryz.t59) (.node (some Tryz.t91) (.node (some Tryz.t155) (.node (some Tryz.t283) .nil .nil) .nil) (.node (some Tryz.t219) (.node (some Tryz.t347) .nil .nil) .nil)) (.node (some Tryz.t123) (.node (some Tryz.t187) (.node (some Tryz.t315) .nil .nil) .nil) (.node (some Tryz.t251) .nil .nil)))))) (.node (some Tryz.t5) (.node (some Tryz.t9) (.node (some Tryz.t17) (.node (some Tryz.t33) (.node (some Tryz.t65) (.node (some Tryz.t129) (.node (some Tryz.t257) .nil .nil) .nil) (.node (some Tryz.t193) (.node (some Tryz.t321) .nil .nil) .nil)) (.node (some Tryz.t97) (.node (some Tryz.t161) (.node (some Tryz.t289) .nil .nil) .nil) (.node (some Tryz.t225) .nil .nil))) (.node (some Tryz.t49) (.node (some Tryz.t81) (.node (some Tryz.t145) (.node (some Tryz.t273) .nil .nil) .nil) (.node (some Tryz.t209) (.node (some Tryz.t337) .nil .nil) .nil)) (.node (some Tryz.t113) (.node (some Tryz.t177) (.node (some Tryz.t305) .nil .nil) .nil) (.node (some Tryz.t241) .nil .nil)))) (.node (some Tryz.t25) (.node (some Tryz.t41) (.node (some Tryz.t73) (.node (some Tryz.t137) (.node (some Tryz.t265) .nil .nil) .nil) (.node (some Tryz.t201) (.node (some Tryz.t329) .nil .nil) .nil)) (.node (some Tryz.t105) (.node (some Tryz.t169) (.node (some Tryz.t297) .nil .nil) .nil) (.node (some Tryz.t233) .nil .nil))) (.node (some Tryz.t57) (.node (some Tryz.t89) (.node (some Tryz.t153) (.node (some Tryz.t281) .nil .nil) .nil) (.node (some Tryz.t217) (.node (some Tryz.t345) .nil .nil) .nil)) (.node (some Tryz.t121) (.node (some Tryz.t185) (.node (some Tryz.t313) .nil .nil) .nil) (.node (some Tryz.t249) .nil .nil))))) (.node (some Tryz.t13) (.node (some Tryz.t21) (.node (some Tryz.t37) (.node (some Tryz.t69) (.node (some Tryz.t133) (.node (some Tryz.t261) .nil .nil) .nil) (.node (some Tryz.t197) (.node (some Tryz.t325) .nil .nil) .nil)) (.node (some Tryz.t101) (.node (some Tryz.t165) (.node (some Tryz.t293) .nil .nil) .nil) (.node (some Tryz.t229) .nil .nil))) (.node (some Tryz.t53) (.node (some Tryz.t85) (.node (some Tryz.t149) (.node (some Tryz.t277) .nil .nil) .nil) (.node (some Tryz.t213) (.node (some Tryz.t341) .nil .nil) .nil)) (.node (some Tryz.t117) (.node (some Tryz.t181) (.node (some Tryz.t309) .nil .nil) .nil) (.node (some Tryz.t245) .nil .nil)))) (.node (some Tryz.t29) (.node (some Tryz.t45) (.node (some Tryz.t77) (.node (some Tryz.t141) (.node (some Tryz.t269) .nil .nil) .nil) (.node (some Tryz.t205) (.node (some Tryz.t333) .nil .nil) .nil)) (.node (some Tryz.t109) (.node (some Tryz.t173) (.node (some Tryz.t301) .nil .nil) .nil) (.node (some Tryz.t237) .nil .nil))) (.node (some Tryz.t61) (.node (some Tryz.t93) (.node (some Tryz.t157) (.node (some Tryz.t285) .nil .nil) .nil) (.node (some Tryz.t221) (.node (some Tryz.t349) .nil .nil) .nil)) (.node (some Tryz.t125) (.node (some Tryz.t189) (.node (some Tryz.t317) .nil .nil) .nil) (.node (some Tryz.t253) .nil .nil))))))) (.node (some Tryz.t2) (.node (some Tryz.t4) (.node (some Tryz.t8) (.node (some Tryz.t16) (.node (some Tryz.t32) (.node (some Tryz.t64) (.node (some Tryz.t128) (.node (some Tryz.t256) .nil .nil) .nil) (.node (some Tryz.t192) (.node (some Tryz.t320) .nil .nil) .nil)) (.node (some Tryz.t96) (.node (some Tryz.t160) (.node (some Tryz.t288) .nil .nil) .nil) (.node (some Tryz.t224) .nil .nil))) (.node (some Tryz.t48) (.node (some Tryz.t80) (.node (some Tryz.t144) (.node (some Tryz.t272) .nil .nil) .nil) (.node (some Tryz.t208) (.node (some Tryz.t336) .nil .nil) .nil)) (.node (some Tryz.t112) (.node (some Tryz.t176) (.node (some Tryz.t304) .nil .nil) .nil) (.node (some Tryz.t240) .nil .nil)))) (.node (some Tryz.t24) (.node (some Tryz.t40) (.node (some Tryz.t72) (.node (some Tryz.t136) (.node (some Tryz.t264) .nil .nil) .nil) (.node (some Tryz.t200) (.node (some Tryz.t328) .nil .nil) .nil)) (.node (some Tryz.t104) (.node (some Tryz.t168) (.node (some Tryz.t296) .nil .nil) .nil) (.node (some Tryz.t232) .nil .nil))) (.node (some Tryz.t56) (.node (some Tryz.t88) (.node (some Tryz.t152) (.node (some Tryz.t280) .nil .nil) .nil) (.node (some Tryz.t216) (.node (some Tryz.t344) .nil .nil) .nil)) (.node (some Tryz.t120) (.node (some Tryz.t184) (.node (some Tryz.t312) .nil .nil) .nil) (.node (some Tryz.t248) .nil .nil))))) (.node (some Tryz.t12) (.node (some Tryz.t20) (.node (some Tryz.t36) (.node (some Tryz.t68) (.node (some Tryz.t132) (.node (some Tryz.t260) .nil .nil) .nil) (.node (some Tryz.t196) (.node (some Tryz.t324) .nil .nil) .nil)) (.node (some Tryz.t100) (.node (some Tryz.t164) (.node (some Tryz.t292) .nil .nil) .nil) (.node (some Tryz.t228) .nil .nil))) (.node (some Tryz.t52) (.node (some Tryz.t84) (.node (some Tryz.t148) (.node (some Tryz.t276) .nil .nil) .nil) (.node (some Tryz.t212) (.node (some Tryz.t340) .nil .nil) .nil)) (.node (some Tryz.t116) (.node (some Tryz.t180) (.node (some Tryz.t308) .nil .nil) .nil) (.node (some Tryz.t244) .nil .nil)))) (.node (some Tryz.t28) (.node (some Tryz.t44) (.node (some Tryz.t76) (.node (some Tryz.t140) (.node (some Tryz.t268) .nil .nil) .nil) (.node (some Tryz.t204) (.node (some Tryz.t332) .nil .nil) .nil)) (.node (some Tryz.t108) (.node (some Tryz.t172) (.node (some Tryz.t300) .nil .nil) .nil) (.node (some Tryz.t236) .nil .nil))) (.node (some Tryz.t60) (.node (some Tryz.t92) (.node (some Tryz.t156) (.node (some Tryz.t284) .nil .nil) .nil) (.node (some Tryz.t220) (.node (some Tryz.t348) .nil .nil) .nil)) (.node (some Tryz.t124) (.node (some Tryz.t188) (.node (some Tryz.t316) .nil .nil) .nil) (.node (some Tryz.t252) .nil .nil)))))) (.node (some Tryz.t6) (.node (some Tryz.t10) (.node (some Tryz.t18) (.node (some Tryz.t34) (.node (some Tryz.t66) (.node (some Tryz.t130) (.node (some Tryz.t258) .nil .nil) .nil) (.node (some Tryz.t194) (.node (some Tryz.t322) .nil .nil) .nil)) (.node (some Tryz.t98) (.node (some Tryz.t162) (.node (some Tryz.t290) .nil .nil) .nil) (.node (some Tryz.t226) .nil .nil))) (.node (some Tryz.t50) (.node (some Tryz.t82) (.node (some Tryz.t146) (.node (some Tryz.t274) .nil .nil) .nil) (.node (some Tryz.t210) (.node (some Tryz.t338) .nil .nil) .nil)) (.node (some Tryz.t114) (.node (some Tryz.t178) (.node (some Tryz.t306) .nil .nil) .nil) (.node (some Tryz.t242) .nil .nil)))) (.node (some Tryz.t26) (.node (some Tryz.t42) (.node (some Tryz.t74) (.node (some Tryz.t138) (.node (some Tryz.t266) .nil .nil) .nil) (.node (some Tryz.t202) (.node (some Tryz.t330) .nil .nil) .nil)) (.node (some Tryz.t106) (.node (some Tryz.t170) (.node (some Tryz.t298) .nil .nil) .nil) (.node (some Tryz.t234) .nil .nil))) (.node (some Tryz.t58) (.node (some Tryz.t90) (.node (some Tryz.t154) (.node (some Tryz.t282) .nil .nil) .nil) (.node (some Tryz.t218) (.node (some Tryz.t346) .nil .nil) .nil)) (.node (some Tryz.t122) (.node (some Tryz.t186) (.node (some Tryz.t314) .nil .nil) .nil) (.node (some Tryz.t250) .nil .nil))))) (.node (some Tryz.t14) (.node (some Tryz.t22) (.node (some Tryz.t38) (.node (some Tryz.t70) (.node (some Tryz.t134) (.node (some Tryz.t262) .nil .nil) .nil) (.node (some Tryz.t198) (.node (some Tryz.t326) .nil .nil) .nil)) (.node (some Tryz.t102) (.node (some Tryz.t166) (.node (some Tryz.t294) .nil .nil) .nil) (.node (some Tryz.t230) .nil .nil))) (.node (some Tryz.t54) (.node (some Tryz.t86) (.node (some Tryz.t150) (.node (some Tryz.t278) .nil .nil) .nil) (.node (some Tryz.t214) (.node (some Tryz.t342) .nil .nil) .nil)) (.node (some Tryz.t118) (.node (some Tryz.t182) (.node (some Tryz.t310) .nil .nil) .nil) (.node (some Tryz.t246) .nil .nil)))) (.node (some Tryz.t30) (.node (some Tryz.t46) (.node (some Tryz.t78) (.node (some Tryz.t142) (.node (some Tryz.t270) .nil .nil) .nil) (.node (some Tryz.t206) (.node (some Tryz.t334) .nil .nil) .nil)) (.node (some Tryz.t110) (.node (some Tryz.t174) (.node (some Tryz.t302) .nil .nil) .nil) (.node (some Tryz.t238) .nil .nil))) (.node (some Tryz.t62) (.node (some Tryz.t94) (.node (some Tryz.t158) (.node (some Tryz.t286) .nil .nil) .nil) (.node (some Tryz.t222) (.node (some Tryz.t350) .nil .nil) .nil)) (.node (some Tryz.t126) (.node (some Tryz.t190) (.node (some Tryz.t318) .nil .nil) .nil) (.node (some Tryz.t254) .nil .nil)))))))
noncomputable def funcT : T Func := .node (some Tryz.f0) (.node (some Tryz.f1) (.node (some Tryz.f3) (.node (some Tryz.f7) (.node (some Tryz.f15) (.node (some Tryz.f31) (.node (some Tryz.f63) (.node (some Tryz.f127) (.node (some Tryz.f255) .nil .nil) .nil) (.node (some Tryz.f191) .nil .nil)) (.node (some Tryz.f95) (.node (some Tryz.f159) (.node (some Tryz.f287) .nil .nil) .nil) (.node (some Tryz.f223) .nil .nil))) (.node (some Tryz.f47) (.node (some Tryz.f79) (.node (some Tryz.f143) (.node (some Tryz.f271) .nil .nil) .nil) (.node (some Tryz.f207) .nil .nil)) (.node (some Tryz.f111) (.node (some Tryz.f175) .nil .nil) (.node (some Tryz.f239) .nil .nil)))) (.node (some Tryz.f23) (.node (some Tryz.f39) (.node (some Tryz.f71) (.node (some Tryz.f135) (.node (some Tryz.f263) .nil .nil) .nil) (.node (some Tryz.f199) .nil .nil)) (.node (some Tryz.f103) (.node (some Tryz.f167) (.node (some Tryz.f295) .nil .nil) .nil) (.node (some Tryz.f231) .nil .nil))) (.node (some Tryz.f55) (.node (some Tryz.f87) (.node (some Tryz.f151) (.node (some Tryz.f279) .nil .nil) .nil) (.node (some Tryz.f215) .nil .nil)) (.node (some Tryz.f119) (.node (some Tryz.f183) .nil .nil) (.node (some Tryz.f247) .nil .nil))))) (.node (some Tryz.f11) (.node (some Tryz.f19) (.node (some Tryz.f35) (.node (some Tryz.f67) (.node (some Tryz.f131) (.node (some Tryz.f259) .nil .nil) .nil) (.node (some Tryz.f195) .nil .nil)) (.node (some Tryz.f99) (.node (some Tryz.f163) (.node (some Tryz.f291) .nil .nil) .nil) (.node (some Tryz.f227) .nil .nil))) (.node (some Tryz.f51) (.node (some Tryz.f83) (.node (some Tryz.f147) (.node (some Tryz.f275) .nil .nil) .nil) (.node (some Tryz.f211) .nil .nil)) (.node (some Tryz.f115) (.node (some Tryz.f179) .nil .nil) (.node (some Tryz.f243) .nil .nil)))) (.node (some Tryz.f27) (.node (some Tryz.f43) (.node (some Tryz.f75) (.node (some Tryz.f139) (.node (some Tryz.f267) .nil .nil) .nil) (.node (some Tryz.f203) .nil .nil)) (.node (some Tryz.f107) (.node (some Tryz.f171) .nil .nil) (.node (some Tryz.f235) .nil .nil))) (.node (some Tryz.f59) (.node (some Tryz.f91) (.node (some Tryz.f155) (.node (some Tryz.f283) .nil .nil) .nil) (.node (some Tryz.f219) .nil .nil)) (.node (some Tryz.f123) (.node (some Tryz.f187) .nil .nil) (.node (some Tryz.f251) .nil .nil)))))) (.node (some Tryz.f5) (.node (some Tryz.f9) (.node (some Tryz.f17) (.node (some Tryz.f33) (.node (some Tryz.f65) (.node (some Tryz.f129) (.node (some Tryz.f257) .nil .nil) .nil) (.node (some Tryz.f193) .nil .nil)) (.node (some Tryz.f97) (.node (some Tryz.f161) (.node (some Tryz.f289) .nil .nil) .nil) (.node (some Tryz.f225) .nil .nil))) (.node (some Tryz.f49) (.node (some Tryz.f81) (.node (some Tryz.f145) (.node (some Tryz.f273) .nil .nil) .nil) (.node (some Tryz.f209) .nil .nil)) (.node (some Tryz.f113) (.node (some Tryz.f177) .nil .nil) (.node (some Tryz.f241) .nil .nil)))) (.node (some Tryz.f25) (.node (some Tryz.f41) (.node (some Tryz.f73) (.node (some Tryz.f137) (.node (some Tryz.f265) .nil .nil) .nil) (.node (some Tryz.f201) .nil .nil)) (.node (some Tryz.f105) (.node (some Tryz.f169) .nil .nil) (.node (some Tryz.f233) .nil .nil))) (.node (some Tryz.f57) (.node (some Tryz.f89) (.node (some Tryz.f153) (.node (some Tryz.f281) .nil .nil) .nil) (.node (some Tryz.f217) .nil .nil)) (.node (some Tryz.f121) (.node (some Tryz.f185) .nil .nil) (.node (some Tryz.f249) .nil .nil))))) (.node (some Tryz.f13) (.node (some Tryz.f21) (.node (some Tryz.f37) (.node (some Tryz.f69) (.node (some Tryz.f133) (.node (some Tryz.f261) .nil .nil) .nil) (.node (some Tryz.f197) .nil .nil)) (.node (some Tryz.f101) (.node (some Tryz.f165) (.node (some Tryz.f293) .nil .nil) .nil) (.node (some Tryz.f229) .nil .nil))) (.node (some Tryz.f53) (.node (some Tryz.f85) (.node (some Tryz.f149) (.node (some Tryz.f277) .nil .nil) .nil) (.node (some Tryz.f213) .nil .nil)) (.node (some Tryz.f117) (.node (some Tryz.f181) .nil .nil) (.node (some Tryz.f245) .nil .nil)))) (.node (some Tryz.f29) (.node (some Tryz.f45) (.node (some Tryz.f77) (.node (some Tryz.f141) (.node (some Tryz.f269) .nil .nil) .nil) (.node (some Tryz.f205) .nil .nil)) (.node (some Tryz.f109) (.node (some Tryz.f173) .nil .nil) (.node (some Tryz.f237) .nil .nil))) (.node (some Tryz.f61) (.node (some Tryz.f93) (.node (some Tryz.f157) (.node (some Tryz.f285) .nil .nil) .nil) (.node (some Tryz.f221) .nil .nil)) (.node (some Tryz.f125) (.node (some Tryz.f189) .nil .nil) (.node (some Tryz.f253) .nil .nil))))))) (.node (some Tryz.f2) (.node (some Tryz.f4) (.node (some Tryz.f8) (.node (some Tryz.f16) (.node (some Tryz.f32) (.node (some Tryz.f64) (.node (some Tryz.f128) (.node (some Tryz.f256) .nil .nil) .nil) (.node (some Tryz.f192) .nil .nil)) (.node (some Tryz.f96) (.node (some Tryz.f160) (.node (some Tryz.f288) .nil .nil) .nil) (.node (some Tryz.f224) .nil .nil))) (.node (some Tryz.f48) (.node (some Tryz.f80) (.node (some Tryz.f144) (.node (some Tryz.f272) .nil .nil) .nil) (.node (some Tryz.f208) .nil .nil)) (.node (some Tryz.f112) (.node (some Tryz.f176) .nil .nil) (.node (some Tryz.f240) .nil .nil)))) (.node (some Tryz.f24) (.node (some Tryz.f40) (.node (some Tryz.f72) (.node (some Tryz.f136) (.node (some Tryz.f264) .nil .nil) .nil) (.node (some Tryz.f200) .nil .nil)) (.node (some Tryz.f104) (.node (some Tryz.f168) .nil .nil) (.node (some Tryz.f232) .nil .nil))) (.node (some Tryz.f56) (.node (some Tryz.f88) (.node (some Tryz.f152) (.node (some Tryz.f280) .nil .nil) .nil) (.node (some Tryz.f216) .nil .nil)) (.node (some Tryz.f120) (.node (some Tryz.f184) .nil .nil) (.node (some Tryz.f248) .nil .nil))))) (.node (some Tryz.f12) (.node (some Tryz.f20) (.node (some Tryz.f36) (.node (some Tryz.f68) (.node (some Tryz.f132) (.node (some Tryz.f260) .nil .nil) .nil) (.node (some Tryz.f196) .nil .nil)) (.node (some Tryz.f100) (.node (some Tryz.f164) (.node (some Tryz.f292) .nil .nil) .nil) (.node (some Tryz.f228) .nil .nil))) (.node (some Tryz.f52) (.node (some Tryz.f84) (.node (some Tryz.f148) (.node (some Tryz.f276) .nil .nil) .nil) (.node (some Tryz.f212) .nil .nil)) (.node (some Tryz.f116) (.node (some Tryz.f180) .nil .nil) (.node (some Tryz.f244) .nil .nil)))) (.node (some Tryz.f28) (.node (some Tryz.f44) (.node (some Tryz.f76) (.node (some Tryz.f140) (.node (some Tryz.f268) .nil .nil) .nil) (.node (some Tryz.f204) .nil .nil)) (.node (some Tryz.f108) (.node (some Tryz.f172) .nil .nil) (.node (some Tryz.f236) .nil .nil))) (.node (some Tryz.f60) (.node (some Tryz.f92) (.node (some Tryz.f156) (.node (some Tryz.f284) .nil .nil) .nil) (.node (some Tryz.f220) .nil .nil)) (.node (some Tryz.f124) (.node (some Tryz.f188) .nil .nil) (.node (some Tryz.f252) .nil .nil)))))) (.node (some Tryz.f6) (.node (some Tryz.f10) (.node (some Tryz.f18) (.node (some Tryz.f34) (.node (some Tryz.f66) (.node (some Tryz.f130) (.node (some Tryz.f258) .nil .nil) .nil) (.node (some Tryz.f194) .nil .nil)) (.node (some Tryz.f98) (.node (some Tryz.f162) (.node (some Tryz.f290) .nil .nil) .nil) (.node (some Tryz.f226) .nil .nil))) (.node (some Tryz.f50) (.node (some Tryz.f82) (.node (some Tryz.f146) (.node (some Tryz.f274) .nil .nil) .nil) (.node (some Tryz.f210) .nil .nil)) (.node (some Tryz.f114) (.node (some Tryz.f178) .nil .nil) (.node (some Tryz.f242) .nil .nil)))) (.node (some Tryz.f26) (.node (some Tryz.f42) (.node (some Tryz.f74) (.node (some Tryz.f138) (.node (some Tryz.f266) .nil .nil) .nil) (.node (some Tryz.f202) .nil .nil)) (.node (some Tryz.f106) (.node (some Tryz.f170) .nil .nil) (.node (some Tryz.f234) .nil .nil))) (.node (some Tryz.f58) (.node (some Tryz.f90) (.node (some Tryz.f154) (.node (some Tryz.f282) .nil .nil) .nil) (.node (some Tryz.f218) .nil .nil)) (.node (some Tryz.f122) (.node (some Tryz.f186) .nil .nil) (.node (some Tryz.f250) .nil .nil))))) (.node (some Tryz.f14) (.node (some Tryz.f22) (.node (some Tryz.f38) (.node (some Tryz.f70) (.node (some Tryz.f134) (.node (some Tryz.f262) .nil .nil) .nil) (.node (some Tryz.f198) .nil .nil)) (.node (some Tryz.f102) (.node (some Tryz.f166) (.node (some Tryz.f294) .nil .nil) .nil) (.node (some Tryz.f230) .nil .nil))) (.node (some Tryz.f54) (.node (some Tryz.f86) (.node (some Tryz.f150) (.node (some Tryz.f278) .nil .nil) .nil) (.node (some Tryz.f214) .nil .nil)) (.node (some Tryz.f118) (.node (some Tryz.f182) .nil .nil) (.node (some Tryz.f246) .nil .nil)))) (.node (some Tryz.f30) (.node (some Tryz.f46) (.node (some Tryz.f78) (.node (some Tryz.f142) (.node (some Tryz.f270) .nil .nil) .nil) (.node (some Tryz.f206) .nil .nil)) (.node (some Tryz.f110) (.node (some Tryz.f174) .nil .nil) (.node (some Tryz.f238) .nil .nil))) (.node (some Tryz.f62) (.node (some Tryz.f94) (.node (some Tryz.f158) (.node (some Tryz.f286) .nil .nil) .nil) (.node (some Tryz.f222) .nil .nil)) (.node (some Tryz.f126) (.node (some Tryz.f190) .nil .nil) (.node (some Tryz.f254) .nil .nil)))))))
def extN (i : Nat) : Nat := cond (Nat.beq i 223) 1 (cond (Nat.beq i 204) 3 (cond (Nat.beq i 183) 4 (cond (Nat.beq i 131) 5 (cond (Nat.beq i 184) 6 (0)))))
def eqsN (i : Nat) : Bool := cond (Nat.beq i 67) true (cond (Nat.beq i 69) true (cond (Nat.beq i 123) true (false)))
noncomputable def tab : Tab := ⟨infoT.get, funcT.get, extN, fun _ => false, eqsN⟩
end Go.Am
namespace Go.Vw
open Go.RowKit Go.Am Go.Proofs
attribute [local irreducible] VOps VRun VNext VD VDn VDq Ret

structure MSized where
  name : ByteArray
  size : Int
structure MOp where
  (kind a b c d e f k : Int)
  args : List Int
  (next els at_ : Int)
structure MFunc where
  name : ByteArray
  (params regs result : Int)
  code : List MOp
structure MModule where
  (globals structs chans : List MSized)
  (locks inputs sinks hatches : List ByteArray)
  funcs : List MFunc
  threads : List Int
def intV (i : Int) : List V := [.int .i64 i]
def strV (s : ByteArray) : List V := [.str s]
def sizedV (s : MSized) : List V := [.str s.name, .int .i64 s.size]
def opV (o : MOp) : List V := [.int .i64 o.kind, .int .i64 o.a, .int .i64 o.b, .int .i64 o.c, .int .i64 o.d, .int .i64 o.e, .int .i64 o.f, .int .i64 o.k, .slice .no (o.args.map intV), .int .i64 o.next, .int .i64 o.els, .int .i64 o.at_]
def funcV (f : MFunc) : List V := [.str f.name, .int .i64 f.params, .int .i64 f.regs, .int .i64 f.result, .slice .no (f.code.map opV)]
def modV (m : MModule) : List V := [.slice .no (m.globals.map sizedV), .slice .no (m.structs.map sizedV), .slice .no (m.chans.map sizedV), .slice .no (m.locks.map strV), .slice .no (m.inputs.map strV), .slice .no (m.sinks.map strV), .slice .no (m.hatches.map strV), .slice .no (m.funcs.map funcV), .slice .no (m.threads.map intV)]

def rowsI : List (List V) → Option (List Int)
  | [] => some []
  | [.int .i64 i] :: r => match rowsI r with
    | some l => some (i :: l)
    | none => none
  | _ => none
theorem rowsI_map : ∀ xs : List Int, rowsI (xs.map intV) = some xs
  | [] => rfl
  | x :: xs => by show (match rowsI (xs.map intV) with | some l => some (x :: l) | none => none) = _; rw [rowsI_map xs]
theorem rowsI_eq : ∀ {rows : List (List V)} {xs : List Int}, rowsI rows = some xs → rows = xs.map intV
  | [], xs, h => by cases h; rfl
  | r :: rows, xs, h => by
    unfold rowsI at h
    split at h
    · next h1 => cases h1
    · next i r' h1 =>
      cases h1
      split at h
      · next l e => cases h; rw [rowsI_eq e]; rfl
      · cases h
    · cases h

def idxI {α : Type} (p : α → Bool) (xs : List α) : Int := match xs.findIdx? p with | some i => i | none => -1
theorem idxI_ge {α : Type} (p : α → Bool) (xs : List α) : decide (0 ≤ idxI p xs) = xs.any p := by
  unfold idxI
  cases h : xs.findIdx? p with
  | none =>
    have h1 := List.findIdx?_eq_none_iff.1 h
    have : xs.any p = false := by rw [List.any_eq_false]; intro x hx; simpa using h1 x hx
    rw [this]; rfl
  | some i =>
    have : xs.any p = true := by
      cases hh : xs.any p
      · have h1 := List.any_eq_false.1 hh
        have : xs.findIdx? p = none := List.findIdx?_eq_none_iff.2 fun x hx => by simpa using h1 x hx
        rw [this] at h; cases h
      · rfl
    rw [this]
    simp
theorem idxI_hit {α : Type} (p : α → Bool) (xs : List α) (i : Nat) (hi : i < xs.length) (hp : p xs[i] = true) (hb : ∀ j (h : j < i), p (xs[j]'(by omega)) = false) : idxI p xs = i := by
  unfold idxI
  have : xs.findIdx? p = some i := by
    rw [List.findIdx?_eq_some_iff_getElem]
    exact ⟨hi, hp, fun j hj => by simpa using hb j hj⟩
  rw [this]
theorem idxI_miss {α : Type} (p : α → Bool) (xs : List α) (hb : ∀ j (h : j < xs.length), p xs[j] = false) : idxI p xs = -1 := by
  unfold idxI
  have : xs.findIdx? p = none := List.findIdx?_eq_none_iff.2 fun x hx => by
    obtain ⟨j, hj, rfl⟩ := List.getElem_of_mem hx
    simpa using hb j hj
  rw [this]

section
variable (hT : TabOk tab Tryz.prog)
include hT
theorem indexInts {p : Int → Bool} {tok : Tok} {xs : List Int} {fid : FuncId} {first cap : List V} {fn : Func} {body : Code} (hl : xs.length < 4611686018427387904) (hf : tab.func fid = some fn) (hb : fn.body = some body)
    (hp : ∀ x ∈ xs, Pure Tryz.prog fid (first ++ [.int .i64 x] ++ cap) (.ob (p x))) : Pure Tryz.prog 127 [.slice tok (xs.map intV), .func fid first cap] (.int .i64 (idxI p xs)) := by
  refine VC.code hT 19 rfl rfl rfl rfl fun F w S0 => ?_
  refine go hT 10000 rfl ?_
  conv => whnf
  refine ops_g rfl (g_len hT rfl rfl rfl rfl rfl rfl (List.length_map _)) ?_
  refine go hT 10000 rfl ?_
  conv => whnf
  refine run_lq (fun i : Nat => ([(0, .slice tok (xs.map intV)), (1, .func fid first cap), (7, .int .i64 xs.length), (8, .int .i64 i)], [])) (fun i => ∀ j (h : j < i) (h' : j < xs.length), p xs[j] = false) (fun i => xs.length - i) 0 (fun j h => by omega) ⟨⟨⟨_, rfl, .refl _⟩, ⟨_, rfl, .refl _⟩, ⟨_, rfl, .refl _⟩, ⟨_, rfl, .refl _⟩, trivial⟩, .nil⟩ fun i hi => ?_
  refine go hT 10000 rfl ?_
  conv => whnf
  refine run_split rfl (fun h => ?_) (fun h => ?_)
  · simp only [decide_eq_true_eq, Int.ofNat_lt] at h
    refine go hT 10000 rfl ?_
    conv => whnf
    refine ops_g rfl (g_indexM hT rfl rfl rfl rfl rfl h rfl) ?_
    refine go hT 10000 rfl ?_
    conv => whnf
    refine ops_s rfl (s_pure hT rfl rfl rfl rfl hf hb (hp _ (List.getElem_mem h)) ?_)
    refine go hT 10000 rfl ?_
    conv => whnf
    refine run_split rfl (fun h2 => ?_) (fun h2 => ?_)
    · refine go hT 10000 rfl ?_
      conv => whnf
      refine ret_of (.tmp rfl .nil) ?_
      show V.int .i64 (i : Int) = _
      rw [idxI_hit p xs i h h2 fun j hj => hi j hj (by omega)]
    · refine go hT 10000 rfl ?_
      conv => whnf
      refine ops_g rfl (g_add rfl rfl rfl (by omega)) ?_
      refine go hT 10000 rfl ?_
      conv => whnf
      refine ⟨i + 1, fun j hj hx => ?_, by omega, ⟨⟨_, rfl, .refl _⟩, ⟨_, rfl, .refl _⟩, ⟨_, rfl, .refl _⟩, ⟨_, rfl, .refl _⟩, trivial⟩, .nil⟩
      by_cases hji : j = i
      · subst hji; exact h2
      · exact hi j (by omega) hx
  · simp only [decide_eq_false_iff_not, Int.ofNat_lt] at h
    refine go hT 10000 rfl ?_
    conv => whnf
    refine ret_of (.tmp rfl .nil) ?_
    rw [idxI_miss p xs fun j hj => hi j (by omega) hj]
    rfl
theorem containsInts {p : Int → Bool} {tok : Tok} {xs : List Int} {fid : FuncId} {first cap : List V} {fn : Func} {body : Code} (hl : xs.length < 4611686018427387904) (hf : tab.func fid = some fn) (hb : fn.body = some body)
    (hp : ∀ x ∈ xs, Pure Tryz.prog fid (first ++ [.int .i64 x] ++ cap) (.ob (p x))) : Pure Tryz.prog 88 [.slice tok (xs.map intV), .func fid first cap] (.ob (xs.any p)) := by
  refine VC.code hT 9 rfl rfl rfl rfl fun F w S0 => ?_
  refine go hT 10000 rfl ?_
  conv => whnf
  refine ops_s rfl (s_pure hT rfl rfl rfl rfl rfl rfl (indexInts hT hl hf hb hp) ?_)
  refine go hT 10000 rfl ?_
  conv => whnf
  refine ret_of (.tmp rfl .nil) ?_
  rw [← idxI_ge]; rfl
theorem indexSized {p : MSized → Bool} {tok : Tok} {xs : List MSized} {fid : FuncId} {first cap : List V} {fn : Func} {body : Code} (hl : xs.length < 4611686018427387904) (hf : tab.func fid = some fn) (hb : fn.body = some body)
    (hp : ∀ x ∈ xs, Pure Tryz.prog fid (first ++ [.agg (sizedV x)] ++ cap) (.ob (p x))) : Pure Tryz.prog 177 [.slice tok (xs.map sizedV), .func fid first cap] (.int .i64 (idxI p xs)) := by
  refine VC.code hT 19 rfl rfl rfl rfl fun F w S0 => ?_
  refine go hT 10000 rfl ?_
  conv => whnf
  refine ops_g rfl (g_len hT rfl rfl rfl rfl rfl rfl (List.length_map _)) ?_
  refine go hT 10000 rfl ?_
  conv => whnf
  refine run_lq (fun i : Nat => ([(0, .slice tok (xs.map sizedV)), (1, .func fid first cap), (7, .int .i64 xs.length), (8, .int .i64 i)], [])) (fun i => ∀ j (h : j < i) (h' : j < xs.length), p xs[j] = false) (fun i => xs.length - i) 0 (fun j h => by omega) ⟨⟨⟨_, rfl, .refl _⟩, ⟨_, rfl, .refl _⟩, ⟨_, rfl, .refl _⟩, ⟨_, rfl, .refl _⟩, trivial⟩, .nil⟩ fun i hi => ?_
  refine go hT 10000 rfl ?_
  conv => whnf
  refine run_split rfl (fun h => ?_) (fun h => ?_)
  · simp only [decide_eq_true_eq, Int.ofNat_lt] at h
    refine go hT 10000 rfl ?_
    conv => whnf
    refine ops_g rfl (g_indexM hT rfl rfl rfl rfl rfl h rfl) ?_
    refine go hT 10000 rfl ?_
    conv => whnf
    refine ops_s rfl (s_pure hT rfl rfl rfl rfl hf hb (hp _ (List.getElem_mem h)) ?_)
    refine go hT 10000 rfl ?_
    conv => whnf
    refine run_split rfl (fun h2 => ?_) (fun h2 => ?_)
    · refine go hT 10000 rfl ?_
      conv => whnf
      refine ret_of (.tmp rfl .nil) ?_
      show V.int .i64 (i : Int) = _
      rw [idxI_hit p xs i h h2 fun j hj => hi j hj (by omega)]
    · refine go hT 10000 rfl ?_
      conv => whnf
      refine ops_g rfl (g_add rfl rfl rfl (by omega)) ?_
      refine go hT 10000 rfl ?_
      conv => whnf
      refine ⟨i + 1, fun j hj hx => ?_, by omega, ⟨⟨_, rfl, .refl _⟩, ⟨_, rfl, .refl _⟩, ⟨_, rfl, .refl _⟩, ⟨_, rfl, .refl _⟩, trivial⟩, .nil⟩
      by_cases hji : j = i
      · subst hji; exact h2
      · exact hi j (by omega) hx
  · simp only [decide_eq_false_iff_not, Int.ofNat_lt] at h
    refine go hT 10000 rfl ?_
    conv => whnf
    refine ret_of (.tmp rfl .nil) ?_
    rw [idxI_miss p xs fun j hj => hi j (by omega) hj]
    rfl
theorem containsSized {p : MSized → Bool} {tok : Tok} {xs : List MSized} {fid : FuncId} {first cap : List V} {fn : Func} {body : Code} (hl : xs.length < 4611686018427387904) (hf : tab.func fid = some fn) (hb : fn.body = some body)
    (hp : ∀ x ∈ xs, Pure Tryz.prog fid (first ++ [.agg (sizedV x)] ++ cap) (.ob (p x))) : Pure Tryz.prog 125 [.slice tok (xs.map sizedV), .func fid first cap] (.ob (xs.any p)) := by
  refine VC.code hT 9 rfl rfl rfl rfl fun F w S0 => ?_
  refine go hT 10000 rfl ?_
  conv => whnf
  refine ops_s rfl (s_pure hT rfl rfl rfl rfl rfl rfl (indexSized hT hl hf hb hp) ?_)
  refine go hT 10000 rfl ?_
  conv => whnf
  refine ret_of (.tmp rfl .nil) ?_
  rw [← idxI_ge]; rfl
theorem indexOps {p : MOp → Bool} {tok : Tok} {xs : List MOp} {fid : FuncId} {first cap : List V} {fn : Func} {body : Code} (hl : xs.length < 4611686018427387904) (hf : tab.func fid = some fn) (hb : fn.body = some body)
    (hp : ∀ x ∈ xs, Pure Tryz.prog fid (first ++ [.agg (opV x)] ++ cap) (.ob (p x))) : Pure Tryz.prog 89 [.slice tok (xs.map opV), .func fid first cap] (.int .i64 (idxI p xs)) := by
  refine VC.code hT 19 rfl rfl rfl rfl fun F w S0 => ?_
  refine go hT 10000 rfl ?_
  conv => whnf
  refine ops_g rfl (g_len hT rfl rfl rfl rfl rfl rfl (List.length_map _)) ?_
  refine go hT 10000 rfl ?_
  conv => whnf
  refine run_lq (fun i : Nat => ([(0, .slice tok (xs.map opV)), (1, .func fid first cap), (7, .int .i64 xs.length), (8, .int .i64 i)], [])) (fun i => ∀ j (h : j < i) (h' : j < xs.length), p xs[j] = false) (fun i => xs.length - i) 0 (fun j h => by omega) ⟨⟨⟨_, rfl, .refl _⟩, ⟨_, rfl, .refl _⟩, ⟨_, rfl, .refl _⟩, ⟨_, rfl, .refl _⟩, trivial⟩, .nil⟩ fun i hi => ?_
  refine go hT 10000 rfl ?_
  conv => whnf
  refine run_split rfl (fun h => ?_) (fun h => ?_)
  · simp only [decide_eq_true_eq, Int.ofNat_lt] at h
    refine go hT 10000 rfl ?_
    conv => whnf
    refine ops_g rfl (g_indexM hT rfl rfl rfl rfl rfl h rfl) ?_
    refine go hT 10000 rfl ?_
    conv => whnf
    refine ops_s rfl (s_pure hT rfl rfl rfl rfl hf hb (hp _ (List.getElem_mem h)) ?_)
    refine go hT 10000 rfl ?_
    conv => whnf
    refine run_split rfl (fun h2 => ?_) (fun h2 => ?_)
    · refine go hT 10000 rfl ?_
      conv => whnf
      refine ret_of (.tmp rfl .nil) ?_
      show V.int .i64 (i : Int) = _
      rw [idxI_hit p xs i h h2 fun j hj => hi j hj (by omega)]
    · refine go hT 10000 rfl ?_
      conv => whnf
      refine ops_g rfl (g_add rfl rfl rfl (by omega)) ?_
      refine go hT 10000 rfl ?_
      conv => whnf
      refine ⟨i + 1, fun j hj hx => ?_, by omega, ⟨⟨_, rfl, .refl _⟩, ⟨_, rfl, .refl _⟩, ⟨_, rfl, .refl _⟩, ⟨_, rfl, .refl _⟩, trivial⟩, .nil⟩
      by_cases hji : j = i
      · subst hji; exact h2
      · exact hi j (by omega) hx
  · simp only [decide_eq_false_iff_not, Int.ofNat_lt] at h
    refine go hT 10000 rfl ?_
    conv => whnf
    refine ret_of (.tmp rfl .nil) ?_
    rw [idxI_miss p xs fun j hj => hi j (by omega) hj]
    rfl
theorem containsOps {p : MOp → Bool} {tok : Tok} {xs : List MOp} {fid : FuncId} {first cap : List V} {fn : Func} {body : Code} (hl : xs.length < 4611686018427387904) (hf : tab.func fid = some fn) (hb : fn.body = some body)
    (hp : ∀ x ∈ xs, Pure Tryz.prog fid (first ++ [.agg (opV x)] ++ cap) (.ob (p x))) : Pure Tryz.prog 48 [.slice tok (xs.map opV), .func fid first cap] (.ob (xs.any p)) := by
  refine VC.code hT 9 rfl rfl rfl rfl fun F w S0 => ?_
  refine go hT 10000 rfl ?_
  conv => whnf
  refine ops_s rfl (s_pure hT rfl rfl rfl rfl rfl rfl (indexOps hT hl hf hb hp) ?_)
  refine go hT 10000 rfl ?_
  conv => whnf
  refine ret_of (.tmp rfl .nil) ?_
  rw [← idxI_ge]; rfl
end
end Go.Vw
namespace Go.Vw
open Go.RowKit Go.Am Go.Proofs
attribute [local irreducible] VOps VRun VNext VD VDn VDq Ret
def belowB (m : Int) (xs : List Int) : Bool := !(xs.any fun n => decide (n < 0) || decide (m ≤ n))
theorem bltI {n m : Nat} (h : n < m) : Nat.blt n m = true := by rw [Nat.blt_eq]; exact h
section
variable (hT : TabOk tab Tryz.prog)
include hT
theorem below1 (x m : Int) : Pure Tryz.prog 124 [.int .i64 x, .pin [.int .i64 m] 0] (.ob (decide (x < 0) || decide (m ≤ x))) := by
  refine VC.code hT 11 rfl rfl rfl rfl fun F w S0 => ?_
  refine go hT 10000 rfl ?_
  conv => whnf
  refine op_guard rfl rfl rfl rfl (fun h => ?_) (fun h => ?_)
  · refine go hT 10000 rfl ?_
    conv => whnf
    exact ret_bool rfl rfl rfl (by rw [h]; rfl)
  · refine go hT 10000 rfl ?_
    conv => whnf
    exact ret_bool rfl rfl rfl (by rw [h]; rfl)
theorem below {tok : Tok} {m : Int} {rows : List (List V)} {xs : List Int} (hx : rowsI rows = some xs) (hl : Nat.blt xs.length 4611686018427387904 = true) : Pure Tryz.prog 85 [.int .i64 m, .slice tok rows] (.ob (belowB m xs)) := by
  rw [rowsI_eq hx]
  refine VC.code hT 9 rfl rfl rfl rfl fun F w S0 => ?_
  refine go hT 10000 rfl ?_
  conv => whnf
  refine ops_s rfl (s_boxF rfl rfl rfl ?_)
  refine go hT 10000 rfl ?_
  conv => whnf
  refine ops_s rfl (s_pure hT rfl rfl rfl rfl rfl rfl (containsInts hT (by rw [Nat.blt_eq] at hl; exact hl) rfl rfl fun x _ => below1 hT x m) ?_)
  refine go hT 10000 rfl ?_
  conv => whnf
  exact ret_bool rfl rfl rfl rfl
theorem zero {tok : Tok} {rows : List (List V)} {xs : List Int} (hx : rowsI rows = some xs) (hl : Nat.blt xs.length 4611686018427387904 = true) : Pure Tryz.prog 128 [.slice tok rows] (.ob (belowB 1 xs)) := by
  refine VC.code hT 5 rfl rfl rfl rfl fun F w S0 => ?_
  refine go hT 10000 rfl ?_
  conv => whnf
  refine ops_s rfl (s_pure hT rfl rfl rfl rfl rfl rfl (below hT hx hl) ?_)
  refine go hT 10000 rfl ?_
  conv => whnf
  exact ret_bool rfl rfl rfl rfl
theorem sized1 (s : MSized) (a b : Int) : Pure Tryz.prog 126 [.agg (sizedV s), .pin [.int .i64 a] 0, .pin [.int .i64 b] 0] (.ob (decide (s.size < a) || decide (b < s.size))) := by
  refine VC.code hT 15 rfl rfl rfl rfl fun F w S0 => ?_
  refine go hT 10000 rfl ?_
  conv => whnf
  refine ops_s rfl (s_boxF rfl rfl rfl ?_)
  refine go hT 10000 rfl ?_
  conv => whnf
  refine op_guard rfl rfl rfl rfl (fun h => ?_) (fun h => ?_)
  · refine go hT 10000 rfl ?_
    conv => whnf
    exact ret_bool rfl rfl rfl (by rw [h]; rfl)
  · refine go hT 10000 rfl ?_
    conv => whnf
    exact ret_bool rfl rfl rfl (by rw [h]; rfl)
end
end Go.Vw
namespace Go.Vw
open Go.RowKit Go.Am Go.Proofs
attribute [local irreducible] VOps VRun VNext VD VDn VDq Ret
def viewV (m : MModule) (f : MFunc) (w : Int) : List V := modV m ++ (funcV f ++ [.int .i64 w])
def sizedB (l : List MSized) (count least most : Int) : Bool := decide ((l.length : Int) ≤ count) && !(l.any fun s => decide (s.size < least) || decide (most < s.size))
section
variable (hT : TabOk tab Tryz.prog)
include hT
theorem sized {tok : Tok} {l : List MSized} (c a b : Int) (hl : l.length < 4611686018427387904) : Pure Tryz.prog 86 [.slice tok (l.map sizedV), .int .i64 c, .int .i64 a, .int .i64 b] (.ob (sizedB l c a b)) := by
  refine VC.code hT 19 rfl rfl rfl rfl fun F w S0 => ?_
  repeat' (first
    | (refine go hT 10000 rfl ?_; conv => whnf)
    | refine ops_s rfl (s_boxF rfl rfl rfl ?_)
    | refine ops_s rfl (s_listF hT rfl rfl rfl rfl rfl rfl rfl rfl ?_)
    | refine ops_g rfl (g_len hT rfl rfl rfl rfl rfl rfl (List.length_map _)) ?_
    | refine op_guard rfl rfl rfl rfl (fun h => ?_) (fun h => ?_)
    | refine ops_s rfl (s_pure hT rfl rfl rfl rfl rfl rfl (containsSized hT hl rfl rfl fun x _ => sized1 hT x a b) ?_)
    | exact ret_bool rfl rfl rfl (by simp [sizedB, *]))
theorem regs {tok : Tok} {m : MModule} {f : MFunc} {w : Int} {rows : List (List V)} {xs : List Int} (hx : rowsI rows = some xs) (hl : Nat.blt xs.length 4611686018427387904 = true) : Pure Tryz.prog 91 [.agg (viewV m f w), .slice tok rows] (.ob (belowB f.regs xs)) := by
  refine VC.code hT 10 rfl rfl rfl rfl fun F w S0 => ?_
  repeat' (first
    | (refine go hT 10000 rfl ?_; conv => whnf)
    | refine ops_s rfl (s_boxF rfl rfl rfl ?_)
    | refine ops_s rfl (s_listF hT rfl rfl rfl rfl rfl rfl rfl rfl ?_)
    | refine ops_g rfl (g_len hT rfl rfl rfl rfl rfl rfl (List.length_map _)) ?_
    | refine op_guard rfl rfl rfl rfl (fun h => ?_) (fun h => ?_)
    | refine ops_s rfl (s_pure hT rfl rfl rfl rfl rfl rfl (below hT hx hl) ?_)
    | exact ret_bool rfl rfl rfl rfl)
end
end Go.Vw
namespace Go.Vw
open Go.RowKit Go.Am Go.Proofs
attribute [local irreducible] VOps VRun VNext VD VDn VDq Ret
theorem belowB_spec {m : Int} {xs : List Int} : belowB m xs = true ↔ ∀ x ∈ xs, 0 ≤ x ∧ x < m := by
  unfold belowB
  rw [Bool.not_eq_true', List.any_eq_false]
  constructor
  · intro h x hx
    have := h x hx
    simp only [Bool.or_eq_true, decide_eq_true_eq, not_or] at this
    omega
  · intro h x hx
    have := h x hx
    simp only [Bool.or_eq_true, decide_eq_true_eq, not_or]
    omega
theorem belowB_one {m x : Int} : belowB m [x] = true ↔ 0 ≤ x ∧ x < m := by rw [belowB_spec]; simp
def wrongB (m : MModule) (x : Int) : Bool := !belowB m.funcs.length [x] || (match m.funcs[x.toNat]? with | some f => !decide (f.params = 0) | none => false)
def sumI (l : List MSized) : Int := (l.map (·.size)).sum
theorem sumI_take (l : List MSized) (i : Nat) (h : i < l.length) : sumI (l.take (i + 1)) = sumI (l.take i) + l[i].size := by
  unfold sumI
  rw [List.take_succ_eq_append_getElem h, List.map_append, List.sum_append]
  simp
theorem sumI_bound (l : List MSized) (b : Int) (hb : ∀ s ∈ l, 0 ≤ s.size ∧ s.size ≤ b) : 0 ≤ sumI l ∧ sumI l ≤ l.length * b := by
  unfold sumI
  induction l with
  | nil => simp
  | cons x l ih =>
    have h1 := hb x (by simp)
    have h2 := ih fun s hs => hb s (List.mem_cons_of_mem _ hs)
    simp only [List.map_cons, List.sum_cons, List.length_cons]
    push_cast
    rw [Int.add_mul]
    omega
section
variable (hT : TabOk tab Tryz.prog)
include hT
theorem frame1 (m : MModule) (x : Int) : Pure Tryz.prog 87 [.int .i64 x, .pin (modV m) 0] (.ob (wrongB m x)) := by
  refine VC.code hT 20 rfl rfl rfl rfl fun F w S0 => ?_
  refine go hT 10000 rfl ?_
  conv => whnf
  refine ops_g rfl (g_len hT rfl rfl rfl rfl rfl rfl (List.length_map _)) ?_
  refine go hT 10000 rfl ?_
  conv => whnf
  refine ops_s rfl (s_listF hT rfl rfl rfl rfl rfl rfl rfl rfl ?_)
  refine go hT 10000 rfl ?_
  conv => whnf
  refine ops_s rfl (s_pure hT rfl rfl rfl rfl rfl rfl (below hT rfl rfl) ?_)
  refine go hT 10000 rfl ?_
  conv => whnf
  refine op_guard rfl rfl rfl rfl (fun h => ?_) (fun h => ?_)
  · refine go hT 10000 rfl ?_
    conv => whnf
    exact ret_bool rfl rfl rfl (by simp [wrongB, h])
  · refine go hT 10000 rfl ?_
    conv => whnf
    have hb := belowB_one.1 (by simpa using h)
    have hi : x.toNat < m.funcs.length := by omega
    refine ops_g rfl (g_index (r := funcV m.funcs[x.toNat]) hT rfl rfl rfl rfl rfl hb.1 (by rw [List.getElem?_map, List.getElem?_eq_getElem hi]; rfl) rfl) ?_
    refine go hT 10000 rfl ?_
    conv => whnf
    refine ret_bool rfl rfl rfl ?_
    simp only [wrongB, h, List.getElem?_eq_getElem hi, Bool.false_or]
theorem words (m : MModule) (hl : m.globals.length < 2000000) (hb : ∀ s ∈ m.globals, 0 ≤ s.size ∧ s.size ≤ 1000) : Pure Tryz.prog 47 [.agg (modV m)] (.int .i64 (sumI m.globals)) := by
  refine VC.code hT 19 rfl rfl rfl rfl fun F w S0 => ?_
  repeat' (first
    | (refine go hT 10000 rfl ?_; conv => whnf)
    | refine ops_s rfl (s_boxF rfl rfl rfl ?_)
    | refine ops_s rfl (s_listF hT rfl rfl rfl rfl rfl rfl rfl rfl ?_)
    | refine ops_g rfl (g_len hT rfl rfl rfl rfl rfl rfl (List.length_map _)) ?_
    | refine op_guard rfl rfl rfl rfl (fun h => ?_) (fun h => ?_))
  refine run_lq (fun i : Nat => ([(3, .int .i64 (sumI (m.globals.take i))), (7, .slice .no (m.globals.map sizedV)), (8, .int .i64 m.globals.length), (9, .int .i64 i)], [])) (fun i => True) (fun i => m.globals.length - i) 0 trivial ⟨⟨⟨_, rfl, .refl _⟩, ⟨_, rfl, .refl _⟩, ⟨_, rfl, .refl _⟩, ⟨_, rfl, .refl _⟩, trivial⟩, .nil⟩ fun i _ => ?_
  refine go hT 10000 rfl ?_
  conv => whnf
  refine run_split rfl (fun h => ?_) (fun h => ?_)
  · simp only [decide_eq_true_eq, Int.ofNat_lt] at h
    refine go hT 10000 rfl ?_
    conv => whnf
    refine ops_g rfl (g_indexM hT rfl rfl rfl rfl rfl h rfl) ?_
    refine go hT 10000 rfl ?_
    conv => whnf
    refine ops_s rfl (s_alloc hT rfl rfl rfl fun b => ?_)
    refine go hT 10000 rfl ?_
    conv => whnf
    refine ops_s rfl (s_store hT rfl rfl rfl .here rfl ?_)
    refine go hT 10000 rfl ?_
    conv => whnf
    refine ops_g rfl (g_load hT rfl rfl .here rfl) ?_
    refine go hT 10000 rfl ?_
    conv => whnf
    have h1 := sumI_bound (m.globals.take i) 1000 fun s hs => hb s (List.mem_of_mem_take hs)
    have h2 := hb _ (List.getElem_mem h)
    have h3 : (m.globals.take i).length ≤ m.globals.length := by rw [List.length_take]; omega
    refine ops_g rfl (g_add rfl rfl rfl (by omega)) ?_
    refine go hT 10000 rfl ?_
    conv => whnf
    refine ops_g rfl (g_add rfl rfl rfl (by omega)) ?_
    refine go hT 10000 rfl ?_
    conv => whnf
    refine ⟨i + 1, trivial, by omega, ⟨⟨_, rfl, by rw [sumI_take _ _ h]; exact .refl _⟩, ⟨_, rfl, .refl _⟩, ⟨_, rfl, .refl _⟩, ⟨_, rfl, .refl _⟩, trivial⟩, .nil⟩
  · simp only [decide_eq_false_iff_not, Int.ofNat_lt] at h
    refine go hT 10000 rfl ?_
    conv => whnf
    refine ret_of (.tmp rfl .nil) ?_
    rw [List.take_of_length_le (by omega)]
    rfl
end
end Go.Vw
namespace Go.Vw
open Go.RowKit Go.Am Go.Proofs
set_option pp.deepTerms false
set_option pp.deepTerms.threshold 4
attribute [local irreducible] VOps VRun VNext VD VDn VDq Ret
def MModule.fn (m : MModule) (a : Int) : MFunc := (m.funcs[a.toNat]?).getD ⟨ByteArray.empty, 0, 0, 0, []⟩
def othersB (m : MModule) (f : MFunc) (o : MOp) : Bool :=
  if o.kind = 16 ∨ o.kind = 17 then belowB m.locks.length [o.a] && belowB 1 [o.b, o.c, o.d, o.e, o.f, o.k]
  else if o.kind = 18 then belowB m.chans.length [o.a] && belowB f.regs [o.b] && belowB 1 [o.c, o.d, o.e, o.f, o.k]
  else if o.kind = 19 then belowB f.regs [o.a] && belowB m.chans.length [o.b] && belowB 1 [o.c, o.d, o.e, o.f, o.k]
  else if o.kind = 20 then belowB m.sinks.length [o.a] && belowB f.regs [o.b] && belowB 1 [o.c, o.d, o.e, o.f, o.k]
  else if o.kind = 21 then belowB f.regs [o.a] && belowB 1 [o.b, o.c, o.d, o.e, o.f, o.k]
  else if o.kind = 22 then belowB m.funcs.length [o.a] && belowB 1 [o.c, o.d, o.e, o.f] && (if o.k = 0 then decide (o.b = -1) else decide (o.k = (m.fn o.a).result) && belowB f.regs [o.b] && decide (o.b ≤ f.regs - o.k))
  else if o.kind = 23 then belowB 1 [o.a, o.b, o.c, o.d, o.e, o.f, o.k]
  else false
def fieldsB (m : MModule) (f : MFunc) (w : Int) (o : MOp) : Bool :=
  if o.kind = 1 then belowB f.regs [o.a] && belowB 1 [o.b, o.c, o.d, o.e, o.f]
  else if o.kind = 2 then belowB f.regs [o.a] && belowB m.inputs.length [o.b] && belowB 1 [o.c, o.d, o.e, o.f, o.k]
  else if o.kind = 3 then belowB f.regs [o.a] && belowB m.hatches.length [o.b] && belowB 1 [o.c, o.d, o.e, o.f, o.k]
  else if o.kind = 4 then belowB f.regs [o.a, o.b] && belowB 1 [o.c, o.d, o.e, o.f, o.k]
  else if o.kind = 5 then belowB f.regs [o.a, o.b] && belowB 1 [o.c, o.d, o.e, o.f] && (decide (o.k = 1) || decide (o.k = 2))
  else if o.kind = 6 then belowB f.regs [o.a, o.b, o.c] && belowB 1 [o.d, o.e, o.f] && decide (1 ≤ o.k) && decide (o.k ≤ 11)
  else if o.kind = 7 then belowB f.regs [o.a] && belowB w [o.b] && belowB 1 [o.c, o.d, o.e, o.f] && belowB 2 [o.k]
  else if o.kind = 8 then belowB w [o.a] && belowB f.regs [o.b] && belowB 1 [o.c, o.d, o.e, o.f] && belowB 2 [o.k]
  else if o.kind = 9 then belowB f.regs [o.a] && belowB m.structs.length [o.b] && belowB 1 [o.c, o.d, o.e, o.f, o.k]
  else if o.kind = 10 then belowB f.regs [o.a, o.b, o.c] && !decide (o.a = o.b) && belowB 1 [o.d, o.e, o.f, o.k]
  else if o.kind = 11 then belowB f.regs [o.a, o.b] && belowB 16 [o.c] && belowB 1 [o.d, o.e, o.f] && belowB 2 [o.k]
  else if o.kind = 12 then belowB f.regs [o.a, o.c] && belowB 16 [o.b] && belowB 1 [o.d, o.e, o.f] && belowB 2 [o.k]
  else if o.kind = 13 ∨ o.kind = 14 then belowB f.regs [o.a, o.b, o.c, o.d] && belowB 1 [o.e, o.f, o.k]
  else if o.kind = 15 then belowB f.regs [o.a, o.b, o.c, o.d, o.e, o.f] && !decide (o.a = o.b) && belowB 1 [o.k]
  else othersB m f o
theorem nf {b : Bool} (h : (!b) = false) : b = true := by simpa using h
structure OkF (f : MFunc) : Prop where
  regs : 0 ≤ f.regs ∧ f.regs ≤ 1024
  result : 0 ≤ f.result ∧ f.result ≤ 2
  params : 0 ≤ f.params ∧ f.params ≤ f.regs
  code : 0 < f.code.length ∧ f.code.length ≤ 4096
theorem MModule.fn_ok {m : MModule} (hm : ∀ f ∈ m.funcs, OkF f) {a : Int} (h : belowB m.funcs.length [a] = true) : OkF (m.fn a) := by
  have hb := belowB_one.1 h
  have hi : a.toNat < m.funcs.length := by omega
  unfold MModule.fn
  rw [List.getElem?_eq_getElem hi]
  exact hm _ (List.getElem_mem hi)
section
variable {S : Hp} {o : Oper} {ρ : Operand → Option V}
theorem g_funcs (hT : TabOk tab Tryz.prog) {m : MModule} {a : Int} {tok : Tok} {x ix : Operand} {κ : IntKind} (ho : o.op = .indexAddr 24 x ix) (hx : ρ x = some (.slice tok (m.funcs.map funcV))) (hi : ρ ix = some (.int κ a)) (hb : belowB m.funcs.length [a] = true) : QG Tryz.prog o ρ S (.pin (funcV (m.fn a)) 0) := by
  have hb := belowB_one.1 hb
  have hi' : a.toNat < m.funcs.length := by omega
  refine g_index (r := funcV (m.fn a)) hT ho rfl rfl hx hi hb.1 ?_ rfl
  unfold MModule.fn
  rw [List.getElem?_map, List.getElem?_eq_getElem hi']; rfl
end
section
variable (hT : TabOk tab Tryz.prog)
include hT
set_option maxHeartbeats 1000000 in
theorem others (m : MModule) (f : MFunc) (w : Int) (o : MOp) (hf : OkF f) (hm : ∀ f ∈ m.funcs, OkF f) : Pure Tryz.prog 129 [.agg (viewV m f w), .agg (opV o)] (.ob (othersB m f o)) := by
  refine VC.code hT 227 rfl rfl rfl rfl fun F W S0 => ?_
  repeat' (first
    | (refine go hT 10000 rfl ?_; conv => whnf)
    | refine ops_s rfl (s_boxF rfl rfl rfl ?_)
    | refine ops_s rfl (s_listF hT rfl rfl rfl rfl rfl rfl rfl rfl ?_)
    | refine ops_g rfl (g_len hT rfl rfl rfl rfl rfl rfl (List.length_map _)) ?_
    | refine op_guard rfl rfl rfl rfl (fun h => ?_) (fun h => ?_)
    | refine run_split rfl (fun h => ?_) (fun h => ?_)
    | refine ops_s rfl (s_pure hT rfl rfl rfl rfl rfl rfl (zero hT rfl rfl) ?_)
    | refine ops_s rfl (s_pure hT rfl rfl rfl rfl rfl rfl (below hT rfl rfl) ?_)
    | refine ops_s rfl (s_pure hT rfl rfl rfl rfl rfl rfl (regs hT (m := m) (f := f) (w := w) rfl rfl) ?_)
    | refine ops_g rfl (g_funcs hT rfl rfl rfl (nf (by assumption))) ?_
    | exact ret_bool rfl rfl rfl (by simp_all [othersB]))
  have hb : belowB m.funcs.length [o.a] = true := nf (by assumption)
  have hg := MModule.fn_ok hm hb
  refine run_drw hT rfl rfl ?_
  repeat' (first
    | refine vd_fin rfl ?_
    | (refine god hT 2 rfl ?_; conv => whnf)
    | refine q_g rfl (fun S' => s_listF hT rfl rfl rfl rfl rfl rfl rfl rfl ⟨rfl, rfl⟩) ?_
    | refine q_g rfl (fun S' => s_pure hT rfl rfl rfl rfl rfl rfl (regs hT (m := m) (f := f) (w := w) rfl rfl) ⟨rfl, rfl⟩) ?_
    | refine q_g rfl (fun S' => (g_funcs hT rfl rfl rfl hb).qs) ?_
    | refine q_g rfl (fun S' => (g_sub rfl rfl rfl (by have h1 := hg.result; have h2 := hf.regs; have h3 : o.k = (m.fn o.a).result := of_decide_eq_true (by assumption); omega)).qs) ?_
    | refine q_guard rfl rfl rfl rfl (fun h => ?_) (fun h => ?_)
    | (refine go hT 10000 rfl ?_; conv => whnf)
    | exact ret_bool rfl rfl rfl (by simp_all [othersB]))
  all_goals trace_state
end
end Go.Vw
namespace Go.Vw
open Go.RowKit Go.Am Go.Proofs
attribute [local irreducible] VOps VRun VNext VD VDn VDq Ret
section
variable (hT : TabOk tab Tryz.prog)
include hT
set_option maxHeartbeats 2000000 in
theorem fields (m : MModule) (f : MFunc) (w : Int) (o : MOp) (hf : OkF f) (hm : ∀ f ∈ m.funcs, OkF f) : Pure Tryz.prog 90 [.agg (viewV m f w), .agg (opV o)] (.ob (fieldsB m f w o)) := by
  refine VC.code hT 421 rfl rfl rfl rfl fun F W S0 => ?_
  repeat' (first
    | (refine go hT 10000 rfl ?_; conv => whnf)
    | refine ops_s rfl (s_boxF rfl rfl rfl ?_)
    | refine ops_s rfl (s_listF hT rfl rfl rfl rfl rfl rfl rfl rfl ?_)
    | refine ops_g rfl (g_len hT rfl rfl rfl rfl rfl rfl (List.length_map _)) ?_
    | refine op_guard rfl rfl rfl rfl (fun h => ?_) (fun h => ?_)
    | refine run_split rfl (fun h => ?_) (fun h => ?_)
    | refine ops_s rfl (s_pure hT rfl rfl rfl rfl rfl rfl (zero hT rfl rfl) ?_)
    | refine ops_s rfl (s_pure hT rfl rfl rfl rfl rfl rfl (below hT rfl rfl) ?_)
    | refine ops_s rfl (s_pure hT rfl rfl rfl rfl rfl rfl (regs hT (m := m) (f := f) (w := w) rfl rfl) ?_)
    | refine ops_s rfl (s_pure hT rfl rfl rfl rfl rfl rfl (others hT m f w o hf hm) ?_)
    | exact ret_bool rfl rfl rfl (by simp_all [fieldsB] <;> omega))
end
end Go.Vw
namespace Go.Vw
open Go.RowKit Go.Am Go.Proofs
attribute [local irreducible] VOps VRun VNext VD VDn VDq Ret
def rightArgs (m : MModule) (f : MFunc) (o : MOp) : Int := if o.kind = 22 then (m.fn o.a).params else if o.kind = 23 then f.result else 0
def rightB (m : MModule) (f : MFunc) (w : Int) (o : MOp) : Bool := fieldsB m f w o && belowB f.regs o.args && decide ((o.args.length : Int) = rightArgs m f o) && belowB (if o.kind = 23 then 1 else f.code.length) [o.next] && belowB (if o.kind = 21 then f.code.length else 1) [o.els]
theorem call_in {m : MModule} {f : MFunc} {w : Int} {o : MOp} (h : fieldsB m f w o = true) (hk : o.kind = 22) : belowB m.funcs.length [o.a] = true := by
  simp only [fieldsB, othersB, hk] at h
  simp at h
  exact h.1.1
section
variable (hT : TabOk tab Tryz.prog)
include hT
set_option maxHeartbeats 2000000 in
theorem right (m : MModule) (f : MFunc) (w : Int) (o : MOp) (hf : OkF f) (hm : ∀ f ∈ m.funcs, OkF f) (hl : o.args.length < 2000000) : Pure Tryz.prog 50 [.agg (viewV m f w), .agg (opV o)] (.ob (rightB m f w o)) := by
  refine VC.code hT 64 rfl rfl rfl rfl fun F W S0 => ?_
  repeat' (first
    | (refine go hT 10000 rfl ?_; conv => whnf)
    | refine ops_s rfl (s_boxF rfl rfl rfl ?_)
    | refine ops_s rfl (s_listF hT rfl rfl rfl rfl rfl rfl rfl rfl ?_)
    | refine ops_g rfl (g_len hT rfl rfl rfl rfl rfl rfl (List.length_map _)) ?_
    | refine op_guard rfl rfl rfl rfl (fun h => ?_) (fun h => ?_)
    | refine run_split rfl (fun h => ?_) (fun h => ?_)
    | refine ops_s rfl (s_pure hT rfl rfl rfl rfl rfl rfl (below hT rfl rfl) ?_)
    | refine ops_s rfl (s_pure hT rfl rfl rfl rfl rfl rfl (regs hT (m := m) (f := f) (w := w) (rowsI_map o.args) (bltI (by omega))) ?_)
    | refine ops_s rfl (s_pure hT rfl rfl rfl rfl rfl rfl (fields hT m f w o hf hm) ?_)
    | refine ops_g rfl (g_funcs hT rfl rfl rfl (call_in (nf (by assumption)) (of_decide_eq_true (by assumption)))) ?_
    | exact ret_bool rfl rfl rfl (by simp_all [rightB, rightArgs] <;> omega))
  all_goals trace_state
theorem right1 (m : MModule) (f : MFunc) (w : Int) (o : MOp) (hf : OkF f) (hm : ∀ f ∈ m.funcs, OkF f) (hl : o.args.length < 2000000) : Pure Tryz.prog 49 [.agg (opV o), .pin (viewV m f w) 0] (.ob (!rightB m f w o)) := by
  refine VC.code hT 8 rfl rfl rfl rfl fun F W S0 => ?_
  repeat' (first
    | (refine go hT 10000 rfl ?_; conv => whnf)
    | refine ops_s rfl (s_boxF rfl rfl rfl ?_)
    | refine ops_s rfl (s_listF hT rfl rfl rfl rfl rfl rfl rfl rfl ?_)
    | refine ops_g rfl (g_len hT rfl rfl rfl rfl rfl rfl (List.length_map _)) ?_
    | refine op_guard rfl rfl rfl rfl (fun h => ?_) (fun h => ?_)
    | refine run_split rfl (fun h => ?_) (fun h => ?_)
    | refine ops_s rfl (s_pure hT rfl rfl rfl rfl rfl rfl (right hT m f w o hf hm hl) ?_)
    | exact ret_bool rfl rfl rfl rfl)
end
end Go.Vw
namespace Go.Vw
open Go.RowKit Go.Am Go.Proofs
attribute [local irreducible] VOps VRun VNext VD VDn VDq Ret
def okFB (f : MFunc) : Bool := belowB 1025 [f.regs] && belowB (f.regs + 1) [f.params] && belowB 3 [f.result] && !decide ((f.code.length : Int) = 0) && !decide (4096 < (f.code.length : Int))
theorem okFB_spec {f : MFunc} (h : okFB f = true) : OkF f := by
  simp only [okFB, Bool.and_eq_true, belowB_one, Bool.not_eq_true', decide_eq_false_iff_not] at h
  obtain ⟨⟨⟨⟨h1, h2⟩, h3⟩, h4⟩, h5⟩ := h
  exact ⟨by omega, by omega, by omega, by omega⟩
def codeSum (l : List MFunc) : Int := (l.map fun f => (f.code.length : Int)).sum
theorem codeSum_take (l : List MFunc) (i : Nat) (h : i < l.length) : codeSum (l.take (i + 1)) = codeSum (l.take i) + l[i].code.length := by
  unfold codeSum
  rw [List.take_succ_eq_append_getElem h, List.map_append, List.sum_append]
  simp
theorem codeSum_bound (l : List MFunc) (hb : ∀ f ∈ l, okFB f = true) : 0 ≤ codeSum l ∧ codeSum l ≤ l.length * 4096 := by
  unfold codeSum
  induction l with
  | nil => simp
  | cons x l ih =>
    have h1 := (okFB_spec (hb x (by simp))).code
    have h2 := ih fun s hs => hb s (List.mem_cons_of_mem _ hs)
    simp only [List.map_cons, List.sum_cons, List.length_cons]
    push_cast
    rw [Int.add_mul]
    omega
def countsB (m : MModule) : Bool := sizedB m.globals 16 1 2 && sizedB m.structs 4 0 16 && sizedB m.chans 4 1 4
def namesB (m : MModule) : Bool := decide ((m.locks.length : Int) ≤ 8) && decide ((m.inputs.length : Int) ≤ 8) && decide ((m.sinks.length : Int) ≤ 4) && decide ((m.hatches.length : Int) ≤ 8)
def frameB (m : MModule) : Bool := m.funcs.all okFB && (countsB m && namesB m && decide (1 ≤ (m.funcs.length : Int)) && decide ((m.funcs.length : Int) ≤ 12) && decide ((m.threads.length : Int) ≤ 4) && decide (codeSum m.funcs ≤ 4096) && !m.threads.any (wrongB m))
/-- No list is beyond bounds. -/
structure Small (m : MModule) : Prop where
  globals : m.globals.length < 2000000
  structs : m.structs.length < 2000000
  chans : m.chans.length < 2000000
  locks : m.locks.length < 2000000
  inputs : m.inputs.length < 2000000
  sinks : m.sinks.length < 2000000
  hatches : m.hatches.length < 2000000
  funcs : m.funcs.length < 2000000
  threads : m.threads.length < 2000000
  code : ∀ f ∈ m.funcs, f.code.length < 2000000
  args : ∀ f ∈ m.funcs, ∀ o ∈ f.code, o.args.length < 2000000
theorem bad_all {m : MModule} {i : Nat} (h : i < m.funcs.length) (hb : okFB m.funcs[i] = false) : frameB m = false := by
  have : m.funcs.all okFB = false := by
    rw [List.all_eq_false]
    exact ⟨_, List.getElem_mem h, by simp [hb]⟩
  simp [frameB, this]
section
variable (hT : TabOk tab Tryz.prog)
include hT
set_option maxHeartbeats 2000000 in
theorem frame (m : MModule) (hs : Small m) : Pure Tryz.prog 46 [.agg (modV m)] (.ob (frameB m)) := by
  refine VC.code hT 125 rfl rfl rfl rfl fun F W S0 => ?_
  repeat' (first
    | (refine go hT 10000 rfl ?_; conv => whnf)
    | refine ops_s rfl (s_boxF rfl rfl rfl ?_)
    | refine ops_s rfl (s_listF hT rfl rfl rfl rfl rfl rfl rfl rfl ?_)
    | refine ops_g rfl (g_len hT rfl rfl rfl rfl rfl rfl (List.length_map _)) ?_
    | refine op_guard rfl rfl rfl rfl (fun h => ?_) (fun h => ?_))
  refine run_lq (fun i : Nat => ([(1, .pin (modV m) 0), (3, .int .i64 (codeSum (m.funcs.take i))), (10, .slice .no (m.funcs.map funcV)), (11, .int .i64 m.funcs.length), (12, .int .i64 i)], [])) (fun i => ∀ f ∈ m.funcs.take i, okFB f = true) (fun i => m.funcs.length - i) 0 (fun f hf => by simp at hf) ⟨⟨⟨_, rfl, .refl _⟩, ⟨_, rfl, .refl _⟩, ⟨_, rfl, .refl _⟩, ⟨_, rfl, .refl _⟩, ⟨_, rfl, .refl _⟩, trivial⟩, .nil⟩ fun i hi => ?_
  have hsf := hs.funcs
  refine go hT 10000 rfl ?_
  conv => whnf
  refine run_split rfl (fun hlt => ?_) (fun hlt => ?_)
  · simp only [decide_eq_true_eq, Int.ofNat_lt] at hlt
    refine go hT 10000 rfl ?_
    conv => whnf
    refine ops_g rfl (g_indexM hT rfl rfl rfl rfl rfl hlt rfl) ?_
    refine go hT 10000 rfl ?_
    conv => whnf
    refine ops_s rfl (s_alloc hT rfl rfl rfl fun b => ?_)
    refine go hT 10000 rfl ?_
    conv => whnf
    refine ops_s rfl (s_store (cs' := funcV m.funcs[i]) hT rfl rfl rfl .here rfl ?_)
    refine ops_freeze (t := 5) rfl .here ?_
    have h1 := codeSum_bound _ hi
    have h3 : (m.funcs.take i).length ≤ m.funcs.length := by rw [List.length_take]; omega
    have h4 := hs.code _ (List.getElem_mem hlt)
    repeat' (first
      | (refine go hT 10000 rfl ?_; conv => whnf)
      | refine ops_s rfl (s_boxF rfl rfl rfl ?_)
      | refine ops_s rfl (s_listF hT rfl rfl rfl rfl rfl rfl rfl rfl ?_)
      | refine ops_g rfl (g_len hT rfl rfl rfl rfl rfl rfl (List.length_map _)) ?_
      | refine op_guard rfl rfl rfl rfl (fun h => ?_) (fun h => ?_)
      | refine run_split rfl (fun h => ?_) (fun h => ?_)
      | refine ops_s rfl (s_pure hT rfl rfl rfl rfl rfl rfl (below hT rfl rfl) ?_)
      | refine ops_g rfl (g_add rfl rfl rfl (by omega)) ?_
      | refine ops_g rfl (g_add rfl rfl rfl (by have := belowB_one.1 (nf (by assumption) : belowB 1025 [_] = true); omega)) ?_
      | exact ret_bool rfl rfl rfl (by rw [bad_all hlt (by simp only [Bool.not_eq_true', Bool.not_eq_false'] at *; simp only [okFB, *, Bool.and_true, Bool.true_and, Bool.and_false, Bool.false_and, Bool.not_true, Bool.not_false])]))
    refine ⟨i + 1, ?_, by omega, ⟨⟨_, rfl, .refl _⟩, ⟨_, rfl, by rw [codeSum_take _ _ hlt]; exact .refl _⟩, ⟨_, rfl, .refl _⟩, ⟨_, rfl, .refl _⟩, ⟨_, rfl, .refl _⟩, trivial⟩, .nil⟩
    have hok : okFB m.funcs[i] = true := by simp only [Bool.not_eq_true', Bool.not_eq_false'] at *; simp only [okFB, *, Bool.and_true, Bool.true_and, Bool.and_false, Bool.false_and, Bool.not_true, Bool.not_false]
    intro f hf
    rw [List.take_succ_eq_append_getElem hlt] at hf
    rcases List.mem_append.1 hf with hf | hf
    · exact hi f hf
    · rw [List.mem_singleton.1 hf]; exact hok
  · simp only [decide_eq_false_iff_not, Int.ofNat_lt] at hlt
    have e : m.funcs.take i = m.funcs := List.take_of_length_le (by omega)
    rw [e] at hi
    have hall : m.funcs.all okFB = true := by rw [List.all_eq_true]; exact hi
    have h1 := hs.globals
    have h2 := hs.structs
    have h3 := hs.chans
    have h4 := hs.threads
    repeat' (first
      | (refine go hT 10000 rfl ?_; conv => whnf)
      | refine ops_s rfl (s_boxF rfl rfl rfl ?_)
      | refine ops_s rfl (s_listF hT rfl rfl rfl rfl rfl rfl rfl rfl ?_)
      | refine ops_g rfl (g_len hT rfl rfl rfl rfl rfl rfl (List.length_map _)) ?_
      | refine op_guard rfl rfl rfl rfl (fun h => ?_) (fun h => ?_)
      | refine run_split rfl (fun h => ?_) (fun h => ?_)
      | refine ops_s rfl (s_pure hT rfl rfl rfl rfl rfl rfl (sized hT _ _ _ (by omega)) ?_)
      | refine ops_s rfl (s_pure hT rfl rfl rfl rfl rfl rfl (containsInts hT (by omega) rfl rfl fun x _ => frame1 hT m x) ?_)
      | exact ret_bool rfl rfl rfl (by (try simp only [e] at *); simp only [frameB, countsB, namesB, *, Bool.and_true, Bool.true_and, Bool.and_false, Bool.false_and, Bool.not_true, Bool.not_false]))
    trace_state
end
end Go.Vw
namespace Go.Vw
open Go.RowKit Go.Am Go.Proofs
attribute [local irreducible] VOps VRun VNext VD VDn VDq Ret
def rightModB (m : MModule) : Bool := frameB m && m.funcs.all fun f => f.code.all (rightB m f (sumI m.globals))
theorem frame_ok {m : MModule} (h : frameB m = true) : (∀ f ∈ m.funcs, OkF f) ∧ (∀ s ∈ m.globals, 0 ≤ s.size ∧ s.size ≤ 1000) := by
  simp only [frameB, countsB, sizedB, Bool.and_eq_true] at h
  refine ⟨fun f hf => okFB_spec (List.all_eq_true.1 h.1 f hf), fun s hs => ?_⟩
  have h1 := h.2.1.1.1.1.1.1.1.1.2
  rw [Bool.not_eq_true', List.any_eq_false] at h1
  have := h1 s hs
  simp only [Bool.or_eq_true, decide_eq_true_eq, not_or] at this
  omega
theorem any_not {α : Type} (p : α → Bool) (l : List α) : l.any (fun x => !p x) = !l.all p := by
  induction l with
  | nil => rfl
  | cons x l ih => simp only [List.any_cons, List.all_cons, ih, Bool.not_and]
section
variable (hT : TabOk tab Tryz.prog)
include hT
set_option maxHeartbeats 2000000 in
theorem codeRight (m : MModule) (hs : Small m) : Pure Tryz.prog 22 [.agg (modV m)] (.ob (rightModB m)) := by
  refine VC.code hT 26 rfl rfl rfl rfl fun F W S0 => ?_
  have hsf := hs.funcs
  refine go hT 10000 rfl ?_
  conv => whnf
  refine ops_s rfl (s_boxF rfl rfl rfl ?_)
  refine go hT 10000 rfl ?_
  conv => whnf
  refine ops_s rfl (s_pure hT rfl rfl rfl rfl rfl rfl (frame hT m hs) ?_)
  refine go hT 10000 rfl ?_
  conv => whnf
  refine run_split rfl (fun h => ?_) (fun h => ?_)
  · refine go hT 10000 rfl ?_
    conv => whnf
    exact ret_bool rfl rfl rfl (by simp only [Bool.not_eq_true'] at h; simp [rightModB, h])
  have hfr := nf h
  obtain ⟨hm, hg⟩ := frame_ok hfr
  repeat' (first
    | (refine go hT 10000 rfl ?_; conv => whnf)
    | refine ops_s rfl (s_boxF rfl rfl rfl ?_)
    | refine ops_s rfl (s_listF hT rfl rfl rfl rfl rfl rfl rfl rfl ?_)
    | refine ops_g rfl (g_len hT rfl rfl rfl rfl rfl rfl (List.length_map _)) ?_
    | refine op_guard rfl rfl rfl rfl (fun h => ?_) (fun h => ?_))
  refine run_lq (fun i : Nat => ([(1, .pin (modV m) 0), (10, .slice .no (m.funcs.map funcV)), (11, .int .i64 m.funcs.length), (12, .int .i64 i)], [])) (fun i => ∀ f ∈ m.funcs.take i, f.code.all (rightB m f (sumI m.globals)) = true) (fun i => m.funcs.length - i) 0 (fun f hf => by simp at hf) ⟨⟨⟨_, rfl, .refl _⟩, ⟨_, rfl, .refl _⟩, ⟨_, rfl, .refl _⟩, ⟨_, rfl, .refl _⟩, trivial⟩, .nil⟩ fun i hi => ?_
  refine go hT 10000 rfl ?_
  conv => whnf
  refine run_split rfl (fun hlt => ?_) (fun hlt => ?_)
  · simp only [decide_eq_true_eq, Int.ofNat_lt] at hlt
    have hin := List.getElem_mem hlt
    refine go hT 10000 rfl ?_
    conv => whnf
    refine ops_g rfl (g_indexM hT rfl rfl rfl rfl rfl hlt rfl) ?_
    refine go hT 10000 rfl ?_
    conv => whnf
    refine ops_s rfl (s_alloc hT rfl rfl rfl fun b => ?_)
    refine go hT 10000 rfl ?_
    conv => whnf
    refine ops_s rfl (s_store (cs' := funcV m.funcs[i]) hT rfl rfl rfl .here rfl ?_)
    refine ops_freeze (t := 4) rfl .here ?_
    refine go hT 10000 rfl ?_
    conv => whnf
    refine run_drw hT rfl rfl ?_
    refine god hT 2 rfl ?_
    conv => whnf
    refine q_g rfl (fun S' => s_pure hT rfl rfl rfl rfl rfl rfl (words hT m hs.globals hg) ⟨rfl, rfl⟩) ?_
    refine god hT 2 rfl ?_
    conv => whnf
    refine vd_eff1 rfl (eff rfl rfl (s_alloc hT rfl rfl rfl fun b => ⟨trivial, ?_⟩))
    refine god hT 2 rfl ?_
    conv => whnf
    refine vd_eff1 rfl (eff rfl rfl (s_store (cs' := viewV m m.funcs[i] (sumI m.globals)) hT rfl rfl rfl .here rfl ⟨trivial, ?_⟩))
    refine god hT 2 rfl ?_
    conv => whnf
    refine vd_fin rfl ?_
    refine next_freeze (t := 5) rfl .here ?_
    refine go hT 10000 rfl ?_
    conv => whnf
    refine ops_s rfl (s_pure hT rfl rfl rfl rfl rfl rfl (containsOps (p := fun o => !rightB m m.funcs[i] (sumI m.globals) o) hT (by have := hs.code _ hin; omega) rfl rfl fun o ho => right1 hT m m.funcs[i] (sumI m.globals) o (hm _ hin) hm (hs.args _ hin o ho)) ?_)
    refine go hT 10000 rfl ?_
    conv => whnf
    refine run_split rfl (fun h2 => ?_) (fun h2 => ?_)
    · refine go hT 10000 rfl ?_
      conv => whnf
      refine ret_bool rfl rfl rfl ?_
      rw [any_not, Bool.not_eq_true'] at h2
      have : (m.funcs.all fun f => f.code.all (rightB m f (sumI m.globals))) = false := by
        rw [List.all_eq_false]
        exact ⟨_, hin, by simp [h2]⟩
      simp only [rightModB, this, Bool.and_false]
    · refine go hT 10000 rfl ?_
      conv => whnf
      refine ops_g rfl (g_add rfl rfl rfl (by omega)) ?_
      refine go hT 10000 rfl ?_
      conv => whnf
      refine ⟨i + 1, ?_, by omega, ⟨⟨_, rfl, .refl _⟩, ⟨_, rfl, .refl _⟩, ⟨_, rfl, .refl _⟩, ⟨_, rfl, .refl _⟩, trivial⟩, .nil⟩
      rw [any_not, Bool.not_eq_false'] at h2
      intro f hf
      rw [List.take_succ_eq_append_getElem hlt] at hf
      rcases List.mem_append.1 hf with hf | hf
      · exact hi f hf
      · rw [List.mem_singleton.1 hf]; exact h2
  · simp only [decide_eq_false_iff_not, Int.ofNat_lt] at hlt
    have e : m.funcs.take i = m.funcs := List.take_of_length_le (by omega)
    rw [e] at hi
    refine go hT 10000 rfl ?_
    conv => whnf
    refine ret_bool rfl rfl rfl ?_
    have : (m.funcs.all fun f => f.code.all (rightB m f (sumI m.globals))) = true := by rw [List.all_eq_true]; exact hi
    simp only [rightModB, hfr, this, Bool.and_true]
end
end Go.Vw
namespace Go.Vw
open Go.RowKit Go.Am Go.Proofs
attribute [local irreducible] VOps VRun VNext VD VDn VDq Ret
/-- A call that answers something of a kind, and looks at nothing that is told. -/
def PureR (P : Program) (f : FuncId) (args : List V) (R : V → Prop) : Prop := VC P f args [] fun v _ => R v
theorem PureR.call {P : Program} {f : FuncId} {args : List V} {R : V → Prop} {S : Hp} {Q : V → Hp → Prop} (h : PureR P f args R) (k : ∀ v, R v → Q v S) : VC P f args S Q := fun F w us s a => by
  refine ((VC.frame h S) F w us s a).mono ?_
  rintro e w' ⟨v', u, F', S', e1, e2, e3, e4, S1, rfl, hv⟩
  exact ⟨v', u, F', S, e1, e2, e3.sub (List.sublist_append_right _ _), e4.sub (List.sublist_append_right _ _), k v' hv⟩
theorem s_pureR {P : Program} {S : Hp} {tb : Tab} {o : Oper} {ρ : Operand → Option V} {k : V → Hp → Prop} (hT : TabOk tb P) {c : Call} {x : Operand} {f : FuncId} {first cap args : List V} {fn : Func} {body : Code} {R : V → Prop} (ho : o.op = .call c) (hc : c.callee = .value x) (hx : ρ x = some (.func f first cap)) (ha : valsV ρ c.args.toList = some args) (hf : tb.func f = some fn) (hb : fn.body = some body)
    (h : PureR P f (first ++ args ++ cap) R) (hk : ∀ v, R v → k v S) : OpS P o ρ S k := s_call hT ho hc hx ha hf hb (h.call hk)
def isN (B : Int) (v : V) : Prop := ∃ n : Int, v = .int .i64 n ∧ 0 ≤ n ∧ n ≤ B
def isB (v : V) : Prop := ∃ b, v = .ob b
/-- No name is beyond bounds. -/
structure SmallN (m : MModule) : Prop where
  globals : ∀ s ∈ m.globals, s.name.size < 2000000
  structs : ∀ s ∈ m.structs, s.name.size < 2000000
  chans : ∀ s ∈ m.chans, s.name.size < 2000000
  locks : ∀ s ∈ m.locks, s.size < 2000000
  inputs : ∀ s ∈ m.inputs, s.size < 2000000
  sinks : ∀ s ∈ m.sinks, s.size < 2000000
  hatches : ∀ s ∈ m.hatches, s.size < 2000000
  funcs : ∀ f ∈ m.funcs, f.name.size < 2000000
section
variable (hT : TabOk tab Tryz.prog)
include hT
theorem weighSized {tok : Tok} (l : List MSized) (n : Int) (hn : 0 ≤ n ∧ n ≤ 100000000000) (hl : l.length < 2000000) (hs : ∀ s ∈ l, s.name.size < 2000000) : PureR Tryz.prog 44 [.slice tok (l.map sizedV), .int .i64 n, .int .i64 2000] (isN 100000000000) := by
  refine VC.code hT 28 rfl rfl rfl rfl fun F W S0 => ?_
  refine go hT 10000 rfl ?_
  conv => whnf
  refine run_lq (fun x : Nat × Int => ([(0, .slice tok (l.map sizedV)), (1, .int .i64 x.2), (2, .int .i64 2000), (7, .int .i64 x.1)], [])) (fun x => 0 ≤ x.2 ∧ x.2 ≤ 100000000000) (fun x => l.length - x.1) (0, n) hn ⟨⟨⟨_, rfl, .refl _⟩, ⟨_, rfl, .refl _⟩, ⟨_, rfl, .refl _⟩, ⟨_, rfl, .refl _⟩, trivial⟩, .nil⟩ fun ⟨i, n⟩ hi => ?_
  refine go hT 10000 rfl ?_
  conv => whnf
  refine ops_g rfl (g_len hT rfl rfl rfl rfl rfl rfl (List.length_map _)) ?_
  refine go hT 10000 rfl ?_
  conv => whnf
  refine op_guard rfl rfl rfl rfl (fun hlt => ?_) (fun hlt => ?_)
  · simp only [decide_eq_true_eq, Int.ofNat_lt] at hlt
    refine go hT 10000 rfl ?_
    conv => whnf
    refine run_split rfl (fun h2 => ?_) (fun h2 => ?_)
    · have h2 := of_decide_eq_true h2
      have h3 := hs _ (List.getElem_mem hlt)
      refine go hT 10000 rfl ?_
      conv => whnf
      refine ops_g rfl (g_indexM hT rfl rfl rfl rfl rfl hlt rfl) ?_
      refine go hT 10000 rfl ?_
      conv => whnf
      refine ops_g rfl (g_lenStr hT rfl rfl rfl rfl rfl rfl) ?_
      refine go hT 10000 rfl ?_
      conv => whnf
      refine ops_g rfl (g_add rfl rfl rfl (by omega)) ?_
      refine go hT 10000 rfl ?_
      conv => whnf
      refine ops_g rfl (g_add rfl rfl rfl (by omega)) ?_
      refine go hT 10000 rfl ?_
      conv => whnf
      exact ⟨(i + 1, n + (l[i].name.size : Int)), by dsimp only; omega, by dsimp only; omega, ⟨⟨_, rfl, .refl _⟩, ⟨_, rfl, .refl _⟩, ⟨_, rfl, .refl _⟩, ⟨_, rfl, .refl _⟩, trivial⟩, .nil⟩
    · refine go hT 10000 rfl ?_
      conv => whnf
      exact ret_of (.tmp rfl .nil) ⟨_, rfl, hi⟩
  · refine go hT 10000 rfl ?_
    conv => whnf
    exact ret_of (.tmp rfl .nil) ⟨_, rfl, hi⟩
theorem weighTexts {tok : Tok} (l : List ByteArray) (n : Int) (hn : 0 ≤ n ∧ n ≤ 100000000000) (hl : l.length < 2000000) (hs : ∀ s ∈ l, s.size < 2000000) : PureR Tryz.prog 45 [.slice tok (l.map strV), .int .i64 n, .int .i64 2000] (isN 100000000000) := by
  refine VC.code hT 27 rfl rfl rfl rfl fun F W S0 => ?_
  refine go hT 10000 rfl ?_
  conv => whnf
  refine run_lq (fun x : Nat × Int => ([(0, .slice tok (l.map strV)), (1, .int .i64 x.2), (2, .int .i64 2000), (7, .int .i64 x.1)], [])) (fun x => 0 ≤ x.2 ∧ x.2 ≤ 100000000000) (fun x => l.length - x.1) (0, n) hn ⟨⟨⟨_, rfl, .refl _⟩, ⟨_, rfl, .refl _⟩, ⟨_, rfl, .refl _⟩, ⟨_, rfl, .refl _⟩, trivial⟩, .nil⟩ fun ⟨i, n⟩ hi => ?_
  refine go hT 10000 rfl ?_
  conv => whnf
  refine ops_g rfl (g_len hT rfl rfl rfl rfl rfl rfl (List.length_map _)) ?_
  refine go hT 10000 rfl ?_
  conv => whnf
  refine op_guard rfl rfl rfl rfl (fun hlt => ?_) (fun hlt => ?_)
  · simp only [decide_eq_true_eq, Int.ofNat_lt] at hlt
    refine go hT 10000 rfl ?_
    conv => whnf
    refine run_split rfl (fun h2 => ?_) (fun h2 => ?_)
    · have h2 := of_decide_eq_true h2
      have h3 := hs _ (List.getElem_mem hlt)
      refine go hT 10000 rfl ?_
      conv => whnf
      refine ops_g rfl (g_indexM hT rfl rfl rfl rfl rfl hlt rfl) ?_
      refine go hT 10000 rfl ?_
      conv => whnf
      refine ops_g rfl (g_lenStr (s := l[i]) hT rfl rfl rfl rfl rfl rfl) ?_
      refine go hT 10000 rfl ?_
      conv => whnf
      refine ops_g rfl (g_add rfl rfl rfl (by omega)) ?_
      refine go hT 10000 rfl ?_
      conv => whnf
      refine ops_g rfl (g_add rfl rfl rfl (by omega)) ?_
      refine go hT 10000 rfl ?_
      conv => whnf
      exact ⟨(i + 1, n + (l[i].size : Int)), by dsimp only; omega, by dsimp only; omega, ⟨⟨_, rfl, .refl _⟩, ⟨_, rfl, .refl _⟩, ⟨_, rfl, .refl _⟩, ⟨_, rfl, .refl _⟩, trivial⟩, .nil⟩
    · refine go hT 10000 rfl ?_
      conv => whnf
      exact ret_of (.tmp rfl .nil) ⟨_, rfl, hi⟩
  · refine go hT 10000 rfl ?_
    conv => whnf
    exact ret_of (.tmp rfl .nil) ⟨_, rfl, hi⟩
end
end Go.Vw
namespace Go.Vw
open Go.RowKit Go.Am Go.Proofs
attribute [local irreducible] VOps VRun VNext VD VDn VDq Ret
section
variable (hT : TabOk tab Tryz.prog)
include hT
set_option maxHeartbeats 2000000 in
theorem weighModule (m : MModule) (hs : Small m) (hn : SmallN m) : PureR Tryz.prog 17 [.agg (modV m), .int .i64 2000] (isN 100000000000) := by
  refine VC.code hT 136 rfl rfl rfl rfl fun F W S0 => ?_
  have z1 := hs.globals
  have z2 := hs.structs
  have z3 := hs.chans
  have z4 := hs.locks
  have z5 := hs.inputs
  have z6 := hs.sinks
  have z7 := hs.hatches
  have z8 := hs.funcs
  have z9 := hs.threads
  repeat' (first
    | (refine go hT 10000 rfl ?_; conv => whnf)
    | refine ops_s rfl (s_boxF rfl rfl rfl ?_)
    | refine ops_s rfl (s_listF hT rfl rfl rfl rfl rfl rfl rfl rfl ?_)
    | refine ops_g rfl (g_len hT rfl rfl rfl rfl rfl rfl (List.length_map _)) ?_
    | refine op_guard rfl rfl rfl rfl (fun h => ?_) (fun h => ?_)
    | refine ops_g rfl (g_add rfl rfl rfl (by omega)) ?_)
  refine run_lq (fun x : Nat × Int => ([(1, .int .i64 2000), (2, .pin (modV m) 0), (5, .int .i64 x.2), (6, .int .i64 x.1)], [])) (fun x => 0 ≤ x.2 ∧ x.2 ≤ 100000000000) (fun x => m.funcs.length - x.1) (0, _) (by dsimp only; omega) ⟨⟨⟨_, rfl, .refl _⟩, ⟨_, rfl, .refl _⟩, ⟨_, rfl, .refl _⟩, ⟨_, rfl, .refl _⟩, trivial⟩, .nil⟩ fun ⟨i, n⟩ hi => ?_
  have fin : ∀ (K : List Kt), True := fun _ => trivial
  refine go hT 10000 rfl ?_
  conv => whnf
  refine ops_g rfl (g_len hT rfl rfl rfl rfl rfl rfl (List.length_map _)) ?_
  refine go hT 10000 rfl ?_
  conv => whnf
  refine op_guard rfl rfl rfl rfl (fun hlt => ?_) (fun hlt => ?_)
  · simp only [decide_eq_true_eq, Int.ofNat_lt] at hlt
    refine go hT 10000 rfl ?_
    conv => whnf
    refine run_split rfl (fun h2 => ?_) (fun h2 => ?_)
    · have h2 := of_decide_eq_true h2
      have hin := List.getElem_mem hlt
      have h3 := hn.funcs _ hin
      have h4 := hs.code _ hin
      refine go hT 10000 rfl ?_
      conv => whnf
      refine run_drw hT rfl rfl ?_
      repeat' (first
        | (refine god hT 2 rfl ?_; conv => whnf)
        | refine vd_fin rfl ?_
        | refine q_g rfl (fun S' => (g_len hT rfl rfl rfl rfl rfl rfl (List.length_map _)).qs) ?_
        | refine q_guard rfl rfl rfl rfl (fun h => ?_) (fun h => ?_)
        | refine q_g rfl (fun S' => (g_indexM hT rfl rfl rfl rfl rfl hlt rfl).qs) ?_
        | refine q_g rfl (fun S' => (g_lenStr (s := m.funcs[i].name) hT rfl rfl rfl rfl rfl rfl).qs) ?_
        | refine q_g rfl (fun S' => (g_add rfl rfl rfl (by omega)).qs) ?_)
      refine go hT 10000 rfl ?_
      conv => whnf
      refine run_lq (fun x : Nat × Int => ([(1, .int .i64 2000), (2, .pin (modV m) 0), (5, .int .i64 x.2), (6, .int .i64 i), (7, .int .i64 x.1)], [])) (fun x => 0 ≤ x.2 ∧ x.2 ≤ 100000000000) (fun x => m.funcs[i].code.length - x.1) (0, _) (by dsimp only; omega) ⟨⟨⟨_, rfl, .refl _⟩, ⟨_, rfl, .refl _⟩, ⟨_, rfl, .refl _⟩, ⟨_, rfl, .refl _⟩, ⟨_, rfl, .refl _⟩, trivial⟩, .nil⟩ fun ⟨k, n⟩ hk => ?_
      refine go hT 10000 rfl ?_
      conv => whnf
      refine ops_g rfl (g_indexM hT rfl rfl rfl rfl rfl hlt rfl) ?_
      refine go hT 10000 rfl ?_
      conv => whnf
      refine ops_g rfl (g_len hT rfl rfl rfl rfl rfl rfl (List.length_map _)) ?_
      refine go hT 10000 rfl ?_
      conv => whnf
      refine op_guard rfl rfl rfl rfl (fun hlk => ?_) (fun hlk => ?_)
      · simp only [decide_eq_true_eq, Int.ofNat_lt] at hlk
        refine go hT 10000 rfl ?_
        conv => whnf
        refine run_split rfl (fun h6 => ?_) (fun h6 => ?_)
        · have h6 := of_decide_eq_true h6
          have h5 := hs.args _ hin _ (List.getElem_mem hlk)
          repeat' (first
            | (refine go hT 10000 rfl ?_; conv => whnf)
            | refine ops_s rfl (s_boxF rfl rfl rfl ?_)
            | refine ops_s rfl (s_listF hT rfl rfl rfl rfl rfl rfl rfl rfl ?_)
            | refine ops_g rfl (g_len hT rfl rfl rfl rfl rfl rfl (List.length_map _)) ?_
            | refine op_guard rfl rfl rfl rfl (fun h => ?_) (fun h => ?_)
            | refine ops_g rfl (g_indexM hT rfl rfl rfl rfl rfl hlt rfl) ?_
            | refine ops_g rfl (g_indexM hT rfl rfl rfl rfl rfl hlk rfl) ?_
            | refine ops_g rfl (g_add rfl rfl rfl (by omega)) ?_)
          exact ⟨(k + 1, n + (m.funcs[i].code[k].args.length : Int)), by dsimp only; omega, by dsimp only; omega, ⟨⟨_, rfl, .refl _⟩, ⟨_, rfl, .refl _⟩, ⟨_, rfl, .refl _⟩, ⟨_, rfl, .refl _⟩, ⟨_, rfl, .refl _⟩, trivial⟩, .nil⟩
        · repeat' (first
            | (refine go hT 10000 rfl ?_; conv => whnf)
            | refine ops_s rfl (s_boxF rfl rfl rfl ?_)
            | refine ops_s rfl (s_listF hT rfl rfl rfl rfl rfl rfl rfl rfl ?_)
            | refine ops_g rfl (g_len hT rfl rfl rfl rfl rfl rfl (List.length_map _)) ?_
            | refine op_guard rfl rfl rfl rfl (fun h => ?_) (fun h => ?_)
            | refine ops_g rfl (g_add rfl rfl rfl (by omega)) ?_)
          exact ⟨(i + 1, n), hk, by dsimp only; omega, ⟨⟨_, rfl, .refl _⟩, ⟨_, rfl, .refl _⟩, ⟨_, rfl, .refl _⟩, ⟨_, rfl, .refl _⟩, trivial⟩, .nil⟩
      · repeat' (first
          | (refine go hT 10000 rfl ?_; conv => whnf)
          | refine ops_s rfl (s_boxF rfl rfl rfl ?_)
          | refine ops_s rfl (s_listF hT rfl rfl rfl rfl rfl rfl rfl rfl ?_)
          | refine ops_g rfl (g_len hT rfl rfl rfl rfl rfl rfl (List.length_map _)) ?_
          | refine op_guard rfl rfl rfl rfl (fun h => ?_) (fun h => ?_)
          | refine ops_g rfl (g_add rfl rfl rfl (by omega)) ?_)
        exact ⟨(i + 1, n), hk, by dsimp only; omega, ⟨⟨_, rfl, .refl _⟩, ⟨_, rfl, .refl _⟩, ⟨_, rfl, .refl _⟩, ⟨_, rfl, .refl _⟩, trivial⟩, .nil⟩
    · refine go hT 10000 rfl ?_
      conv => whnf
      refine ops_s rfl (s_pureR hT rfl rfl rfl rfl rfl rfl (weighSized hT m.globals _ hi hs.globals hn.globals) ?_)
      rintro _ ⟨n0, rfl, hn0⟩
      refine go hT 10000 rfl ?_
      conv => whnf
      refine ops_s rfl (s_pureR hT rfl rfl rfl rfl rfl rfl (weighSized hT m.structs _ hn0 hs.structs hn.structs) ?_)
      rintro _ ⟨n1, rfl, hn1⟩
      refine go hT 10000 rfl ?_
      conv => whnf
      refine ops_s rfl (s_pureR hT rfl rfl rfl rfl rfl rfl (weighSized hT m.chans _ hn1 hs.chans hn.chans) ?_)
      rintro _ ⟨n2, rfl, hn2⟩
      refine go hT 10000 rfl ?_
      conv => whnf
      refine ops_s rfl (s_pureR hT rfl rfl rfl rfl rfl rfl (weighTexts hT m.locks _ hn2 hs.locks hn.locks) ?_)
      rintro _ ⟨n3, rfl, hn3⟩
      refine go hT 10000 rfl ?_
      conv => whnf
      refine ops_s rfl (s_pureR hT rfl rfl rfl rfl rfl rfl (weighTexts hT m.inputs _ hn3 hs.inputs hn.inputs) ?_)
      rintro _ ⟨n4, rfl, hn4⟩
      refine go hT 10000 rfl ?_
      conv => whnf
      refine ops_s rfl (s_pureR hT rfl rfl rfl rfl rfl rfl (weighTexts hT m.sinks _ hn4 hs.sinks hn.sinks) ?_)
      rintro _ ⟨n5, rfl, hn5⟩
      refine go hT 10000 rfl ?_
      conv => whnf
      refine ops_s rfl (s_pureR hT rfl rfl rfl rfl rfl rfl (weighTexts hT m.hatches _ hn5 hs.hatches hn.hatches) ?_)
      rintro _ ⟨n6, rfl, hn6⟩
      refine go hT 10000 rfl ?_
      conv => whnf
      exact ret_of (.tmp rfl .nil) ⟨_, rfl, hn6⟩
  · refine go hT 10000 rfl ?_
    conv => whnf
    refine ops_s rfl (s_pureR hT rfl rfl rfl rfl rfl rfl (weighSized hT m.globals _ hi hs.globals hn.globals) ?_)
    rintro _ ⟨n0, rfl, hn0⟩
    refine go hT 10000 rfl ?_
    conv => whnf
    refine ops_s rfl (s_pureR hT rfl rfl rfl rfl rfl rfl (weighSized hT m.structs _ hn0 hs.structs hn.structs) ?_)
    rintro _ ⟨n1, rfl, hn1⟩
    refine go hT 10000 rfl ?_
    conv => whnf
    refine ops_s rfl (s_pureR hT rfl rfl rfl rfl rfl rfl (weighSized hT m.chans _ hn1 hs.chans hn.chans) ?_)
    rintro _ ⟨n2, rfl, hn2⟩
    refine go hT 10000 rfl ?_
    conv => whnf
    refine ops_s rfl (s_pureR hT rfl rfl rfl rfl rfl rfl (weighTexts hT m.locks _ hn2 hs.locks hn.locks) ?_)
    rintro _ ⟨n3, rfl, hn3⟩
    refine go hT 10000 rfl ?_
    conv => whnf
    refine ops_s rfl (s_pureR hT rfl rfl rfl rfl rfl rfl (weighTexts hT m.inputs _ hn3 hs.inputs hn.inputs) ?_)
    rintro _ ⟨n4, rfl, hn4⟩
    refine go hT 10000 rfl ?_
    conv => whnf
    refine ops_s rfl (s_pureR hT rfl rfl rfl rfl rfl rfl (weighTexts hT m.sinks _ hn4 hs.sinks hn.sinks) ?_)
    rintro _ ⟨n5, rfl, hn5⟩
    refine go hT 10000 rfl ?_
    conv => whnf
    refine ops_s rfl (s_pureR hT rfl rfl rfl rfl rfl rfl (weighTexts hT m.hatches _ hn5 hs.hatches hn.hatches) ?_)
    rintro _ ⟨n6, rfl, hn6⟩
    refine go hT 10000 rfl ?_
    conv => whnf
    exact ret_of (.tmp rfl .nil) ⟨_, rfl, hn6⟩
theorem great (m : MModule) (hs : Small m) (hn : SmallN m) : PureR Tryz.prog 7 [.agg (modV m)] isB := by
  refine VC.code hT 25 rfl rfl rfl rfl fun F W S0 => ?_
  have z8 := hs.funcs
  refine go hT 10000 rfl ?_
  conv => whnf
  refine ops_s rfl (s_boxF rfl rfl rfl ?_)
  refine go hT 10000 rfl ?_
  conv => whnf
  refine ops_s rfl (s_pureR hT rfl rfl rfl rfl rfl rfl (weighModule hT m hs hn) ?_)
  rintro _ ⟨n, rfl, hn⟩
  refine go hT 10000 rfl ?_
  conv => whnf
  refine run_split rfl (fun h => ?_) (fun h => ?_)
  · refine go hT 10000 rfl ?_
    conv => whnf
    exact ret_bool rfl rfl rfl ⟨_, rfl⟩
  refine go hT 10000 rfl ?_
  conv => whnf
  refine run_lq (fun i : Nat => ([(1, .pin (modV m) 0), (3, .int .i64 i)], [])) (fun _ => True) (fun i => m.funcs.length - i) 0 trivial ⟨⟨⟨_, rfl, .refl _⟩, ⟨_, rfl, .refl _⟩, trivial⟩, .nil⟩ fun i _ => ?_
  refine go hT 10000 rfl ?_
  conv => whnf
  refine ops_g rfl (g_len hT rfl rfl rfl rfl rfl rfl (List.length_map _)) ?_
  refine go hT 10000 rfl ?_
  conv => whnf
  refine op_guard rfl rfl rfl rfl (fun hlt => ?_) (fun hlt => ?_)
  · simp only [decide_eq_true_eq, Int.ofNat_lt] at hlt
    repeat' (first
      | (refine go hT 10000 rfl ?_; conv => whnf)
      | refine ops_s rfl (s_boxF rfl rfl rfl ?_)
      | refine ops_s rfl (s_listF hT rfl rfl rfl rfl rfl rfl rfl rfl ?_)
      | refine ops_g rfl (g_len hT rfl rfl rfl rfl rfl rfl (List.length_map _)) ?_
      | refine op_guard rfl rfl rfl rfl (fun h => ?_) (fun h => ?_)
      | refine run_split rfl (fun h => ?_) (fun h => ?_)
      | refine ops_g rfl (g_indexM hT rfl rfl rfl rfl rfl hlt rfl) ?_
      | refine ops_g rfl (g_add rfl rfl rfl (by omega)) ?_
      | exact ret_bool rfl rfl rfl ⟨_, rfl⟩
      | exact ⟨i + 1, trivial, by omega, ⟨⟨_, rfl, .refl _⟩, ⟨_, rfl, .refl _⟩, trivial⟩, .nil⟩)
  · refine go hT 10000 rfl ?_
    conv => whnf
    exact ret_bool rfl rfl rfl ⟨_, rfl⟩
end
end Go.Vw
namespace Go.Vw
open Go.RowKit Go.Am Go.Proofs
attribute [local irreducible] VOps VRun VNext VD VDn VDq Ret
theorem rows_len {α : Type} {g : α → List V} {n : Nat} (h : ∀ x, (g x).length = n) (l : List α) : ∀ r ∈ l.map g, r.length = n := fun r hr => by
  obtain ⟨x, _, rfl⟩ := List.mem_map.1 hr
  exact h x
theorem rows_cell {α : Type} {g : α → List V} (h : ∀ x, allCellV (g x) = true) (l : List α) : ∀ r ∈ l.map g, allCellV r = true := fun r hr => by
  obtain ⟨x, _, rfl⟩ := List.mem_map.1 hr
  exact h x
theorem intV_len (l : List Int) : ∀ r ∈ l.map intV, r.length = 1 := rows_len (g := intV) (n := 1) (fun _ => rfl) l
theorem intV_cell (l : List Int) : ∀ r ∈ l.map intV, allCellV r = true := rows_cell (g := intV) (fun _ => rfl) l
theorem strV_len (l : List ByteArray) : ∀ r ∈ l.map strV, r.length = 1 := rows_len (g := strV) (n := 1) (fun _ => rfl) l
theorem strV_cell (l : List ByteArray) : ∀ r ∈ l.map strV, allCellV r = true := rows_cell (g := strV) (fun _ => rfl) l
theorem sizedV_len (l : List MSized) : ∀ r ∈ l.map sizedV, r.length = 2 := rows_len (g := sizedV) (n := 2) (fun _ => rfl) l
theorem sizedV_cell (l : List MSized) : ∀ r ∈ l.map sizedV, allCellV r = true := rows_cell (g := sizedV) (fun _ => rfl) l
theorem opV_len (l : List MOp) : ∀ r ∈ l.map opV, r.length = 12 := rows_len (g := opV) (n := 12) (fun _ => rfl) l
theorem opV_cell (l : List MOp) : ∀ r ∈ l.map opV, allCellV r = true := rows_cell (g := opV) (fun _ => rfl) l
theorem funcV_len (l : List MFunc) : ∀ r ∈ l.map funcV, r.length = 5 := rows_len (g := funcV) (n := 5) (fun _ => rfl) l
theorem funcV_cell (l : List MFunc) : ∀ r ∈ l.map funcV, allCellV r = true := rows_cell (g := funcV) (fun _ => rfl) l
section
variable (hT : TabOk tab Tryz.prog)
include hT
theorem copyInts {tok : Tok} (xs : List Int) (hl : xs.length < 2000000) : Pure Tryz.prog 20 [.slice tok (xs.map intV)] (.slice .no (xs.map intV)) := by
  refine VC.code hT 9 rfl rfl rfl rfl fun F W S0 => ?_
  refine go hT 10000 rfl ?_
  conv => whnf
  refine ops_s rfl (s_buildSlice hT rfl rfl rfl rfl rfl rfl rfl rfl fun t ht => ?_)
  refine go hT 10000 rfl ?_
  conv => whnf
  refine ops_s rfl (s_append hT rfl rfl rfl rfl rfl rfl rfl rfl rfl rfl ht .here (fun r hr => by cases hr) (intV_len xs) (intV_cell xs) (by simp only [List.length_nil, List.length_map]; omega) fun t' ht' => ?_)
  refine go hT 10000 rfl ?_
  conv => whnf
  exact ret_of (.tmpL rfl (V.Le.slice _ _) .nil) rfl
theorem copyTexts {tok : Tok} (xs : List ByteArray) (hl : xs.length < 2000000) : Pure Tryz.prog 19 [.slice tok (xs.map strV)] (.slice .no (xs.map strV)) := by
  refine VC.code hT 9 rfl rfl rfl rfl fun F W S0 => ?_
  refine go hT 10000 rfl ?_
  conv => whnf
  refine ops_s rfl (s_buildSlice hT rfl rfl rfl rfl rfl rfl rfl rfl fun t ht => ?_)
  refine go hT 10000 rfl ?_
  conv => whnf
  refine ops_s rfl (s_append hT rfl rfl rfl rfl rfl rfl rfl rfl rfl rfl ht .here (fun r hr => by cases hr) (strV_len xs) (strV_cell xs) (by simp only [List.length_nil, List.length_map]; omega) fun t' ht' => ?_)
  refine go hT 10000 rfl ?_
  conv => whnf
  exact ret_of (.tmpL rfl (V.Le.slice _ _) .nil) rfl
theorem copySized {tok : Tok} (xs : List MSized) (hl : xs.length < 2000000) : Pure Tryz.prog 18 [.slice tok (xs.map sizedV)] (.slice .no (xs.map sizedV)) := by
  refine VC.code hT 9 rfl rfl rfl rfl fun F W S0 => ?_
  refine go hT 10000 rfl ?_
  conv => whnf
  refine ops_s rfl (s_buildSlice hT rfl rfl rfl rfl rfl rfl rfl rfl fun t ht => ?_)
  refine go hT 10000 rfl ?_
  conv => whnf
  refine ops_s rfl (s_append hT rfl rfl rfl rfl rfl rfl rfl rfl rfl rfl ht .here (fun r hr => by cases hr) (sizedV_len xs) (sizedV_cell xs) (by simp only [List.length_nil, List.length_map]; omega) fun t' ht' => ?_)
  refine go hT 10000 rfl ?_
  conv => whnf
  exact ret_of (.tmpL rfl (V.Le.slice _ _) .nil) rfl
theorem copyCode {tok : Tok} (xs : List MOp) (hl : xs.length < 2000000) (ha : ∀ o ∈ xs, o.args.length < 2000000) : Pure Tryz.prog 21 [.slice tok (xs.map opV)] (.slice .no (xs.map opV)) := by
  refine VC.code hT 26 rfl rfl rfl rfl fun F W S0 => ?_
  refine go hT 10000 rfl ?_
  conv => whnf
  refine ops_s rfl (s_buildSlice hT rfl rfl rfl rfl rfl rfl rfl rfl fun t ht => ?_)
  refine go hT 10000 rfl ?_
  conv => whnf
  refine run_lq (fun x : Nat × Tok => ([(0, .slice tok (xs.map opV)), (3, .slice x.2 ((xs.take x.1).map opV)), (4, .int .i64 x.1)], [.tl x.2])) (fun x => tokB 12 x.2 = true) (fun x => xs.length - x.1) (0, t) ht ⟨⟨⟨_, rfl, .refl _⟩, ⟨_, rfl, .refl _⟩, ⟨_, rfl, .refl _⟩, trivial⟩, .refl _⟩ fun ⟨i, t⟩ ht => ?_
  refine go hT 10000 rfl ?_
  conv => whnf
  refine ops_g rfl (g_len hT rfl rfl rfl rfl rfl rfl (List.length_map _)) ?_
  refine go hT 10000 rfl ?_
  conv => whnf
  refine run_split rfl (fun hlt => ?_) (fun hlt => ?_)
  · simp only [decide_eq_true_eq, Int.ofNat_lt] at hlt
    have h2 := ha _ (List.getElem_mem hlt)
    refine go hT 10000 rfl ?_
    conv => whnf
    refine ops_g rfl (g_indexM hT rfl rfl rfl rfl rfl hlt rfl) ?_
    refine go hT 10000 rfl ?_
    conv => whnf
    refine ops_s rfl (s_alloc hT rfl rfl rfl fun b => ?_)
    refine go hT 10000 rfl ?_
    conv => whnf
    refine ops_s rfl (s_store (cs' := opV xs[i]) hT rfl rfl rfl .here rfl ?_)
    refine go hT 10000 rfl ?_
    conv => whnf
    refine ops_g rfl (g_load hT rfl rfl .here rfl) ?_
    refine go hT 10000 rfl ?_
    conv => whnf
    refine ops_s rfl (s_pure hT rfl rfl rfl rfl rfl rfl (copyInts hT xs[i].args h2) ?_)
    refine go hT 10000 rfl ?_
    conv => whnf
    refine ops_s rfl (s_store (cs' := opV xs[i]) hT rfl rfl rfl .here rfl ?_)
    refine go hT 10000 rfl ?_
    conv => whnf
    refine ops_g rfl (g_load hT rfl rfl .here rfl) ?_
    refine go hT 10000 rfl ?_
    conv => whnf
    refine ops_s rfl (s_listF (rows := [opV xs[i]]) hT rfl rfl rfl rfl rfl rfl rfl rfl ?_)
    refine go hT 10000 rfl ?_
    conv => whnf
    refine ops_s rfl (s_append hT rfl rfl rfl rfl rfl rfl rfl rfl rfl rfl ht (.there .here) (opV_len _) (opV_len [xs[i]]) (opV_cell [xs[i]]) (by simp only [List.length_cons, List.length_nil, List.length_map, List.length_take]; omega) fun t' ht' => ?_)
    refine go hT 10000 rfl ?_
    conv => whnf
    refine ops_g rfl (g_add rfl rfl rfl (by dsimp only; omega)) ?_
    refine go hT 10000 rfl ?_
    conv => whnf
    exact ⟨(i + 1, t'), ht', by dsimp only; omega, ⟨⟨_, rfl, .refl _⟩, ⟨_, rfl, by dsimp only; rw [List.take_succ_eq_append_getElem hlt, List.map_append]; exact .refl _⟩, ⟨_, rfl, .refl _⟩, trivial⟩, .drop (.refl _)⟩
  · simp only [decide_eq_false_iff_not, Int.ofNat_lt] at hlt
    refine go hT 10000 rfl ?_
    conv => whnf
    refine ret_of (.tmpL rfl (V.Le.slice _ _) .nil) ?_
    show V.slice .no ((xs.take i).map opV) = _
    rw [List.take_of_length_le (by omega)]
end
end Go.Vw
namespace Go.Vw
open Go.RowKit Go.Am Go.Proofs
attribute [local irreducible] VOps VRun VNext VD VDn VDq Ret
def modV' (m : MModule) (fs : V) : List V := [.slice .no (m.globals.map sizedV), .slice .no (m.structs.map sizedV), .slice .no (m.chans.map sizedV), .slice .no (m.locks.map strV), .slice .no (m.inputs.map strV), .slice .no (m.sinks.map strV), .slice .no (m.hatches.map strV), fs, .slice .no (m.threads.map intV)]
def modZ : List V := [.slice .zero [], .slice .zero [], .slice .zero [], .slice .zero [], .slice .zero [], .slice .zero [], .slice .zero [], .slice .zero [], .slice .zero []]
section
variable (hT : TabOk tab Tryz.prog)
include hT
theorem copyModule (m : MModule) (hs : Small m) : Pure Tryz.prog 8 [.agg (modV m)] (.agg (modV m)) := by
  refine VC.code hT 54 rfl rfl rfl rfl fun F W S0 => ?_
  have z8 := hs.funcs
  refine go hT 10000 rfl ?_
  conv => whnf
  refine ops_s rfl (s_boxF rfl rfl rfl ?_)
  refine go hT 10000 rfl ?_
  conv => whnf
  refine ops_s rfl (s_alloc hT rfl rfl rfl fun b2 => ?_)
  refine go hT 10000 rfl ?_
  conv => whnf
  refine run_drw hT rfl rfl ?_
  repeat' (first
    | (refine god hT 2 rfl ?_; conv => whnf)
    | refine vd_fin rfl ?_
    | refine q_g rfl (fun S' => (g_len hT rfl rfl rfl rfl rfl rfl (List.length_map _)).qs) ?_
    | refine q_guard rfl rfl rfl rfl (fun h => ?_) (fun h => ?_)
    | refine q_g rfl (fun S' => s_pure hT rfl rfl rfl rfl rfl rfl (copySized hT m.globals hs.globals) ⟨rfl, rfl⟩) ?_
    | refine q_g rfl (fun S' => s_pure hT rfl rfl rfl rfl rfl rfl (copySized hT m.structs hs.structs) ⟨rfl, rfl⟩) ?_
    | refine q_g rfl (fun S' => s_pure hT rfl rfl rfl rfl rfl rfl (copySized hT m.chans hs.chans) ⟨rfl, rfl⟩) ?_
    | refine q_g rfl (fun S' => s_pure hT rfl rfl rfl rfl rfl rfl (copyTexts hT m.locks hs.locks) ⟨rfl, rfl⟩) ?_
    | refine q_g rfl (fun S' => s_pure hT rfl rfl rfl rfl rfl rfl (copyTexts hT m.inputs hs.inputs) ⟨rfl, rfl⟩) ?_
    | refine q_g rfl (fun S' => s_pure hT rfl rfl rfl rfl rfl rfl (copyTexts hT m.sinks hs.sinks) ⟨rfl, rfl⟩) ?_
    | refine q_g rfl (fun S' => s_pure hT rfl rfl rfl rfl rfl rfl (copyTexts hT m.hatches hs.hatches) ⟨rfl, rfl⟩) ?_
    | refine q_g rfl (fun S' => s_pure hT rfl rfl rfl rfl rfl rfl (copyInts hT m.threads hs.threads) ⟨rfl, rfl⟩) ?_)
  refine vd_eff1 rfl (eff rfl rfl (s_alloc hT rfl rfl rfl fun b3 => ⟨trivial, ?_⟩))
  refine god hT 2 rfl ?_
  conv => whnf
  refine vd_eff1 rfl (eff rfl rfl (s_store (cs' := modV' m (.slice .zero [])) hT rfl rfl rfl .here rfl ⟨trivial, ?_⟩))
  refine god hT 2 rfl ?_
  conv => whnf
  refine vd_fin rfl ?_
  refine go hT 10000 rfl ?_
  conv => whnf
  refine run_lq (fun x : Nat × Tok => ([(1, .pin (modV m) 0), (2, .ptr b2 0), (3, .ptr b3 0), (4, .int .i64 x.1)], [.cells b3 (modV' m (.slice x.2 ((m.funcs.take x.1).map funcV))) 27, .cells b2 modZ 27, .tl x.2])) (fun x => tokB 5 x.2 = true) (fun x => m.funcs.length - x.1) (0, .zero) rfl ⟨⟨⟨_, rfl, .refl _⟩, ⟨_, rfl, .refl _⟩, ⟨_, rfl, .refl _⟩, ⟨_, rfl, .refl _⟩, trivial⟩, .keep (.keep (.zero .nil))⟩ fun ⟨i, t⟩ ht => ?_
  refine go hT 10000 rfl ?_
  conv => whnf
  refine ops_g rfl (g_len hT rfl rfl rfl rfl rfl rfl (List.length_map _)) ?_
  refine go hT 10000 rfl ?_
  conv => whnf
  refine run_split rfl (fun hlt => ?_) (fun hlt => ?_)
  · simp only [decide_eq_true_eq, Int.ofNat_lt] at hlt
    have hin := List.getElem_mem hlt
    refine go hT 10000 rfl ?_
    conv => whnf
    refine ops_g rfl (g_indexM hT rfl rfl rfl rfl rfl hlt rfl) ?_
    refine go hT 10000 rfl ?_
    conv => whnf
    refine ops_s rfl (s_alloc hT rfl rfl rfl fun b => ?_)
    refine go hT 10000 rfl ?_
    conv => whnf
    refine ops_s rfl (s_store (cs' := funcV m.funcs[i]) hT rfl rfl rfl .here rfl ?_)
    refine go hT 10000 rfl ?_
    conv => whnf
    refine ops_g rfl (g_load hT rfl rfl .here rfl) ?_
    refine go hT 10000 rfl ?_
    conv => whnf
    refine ops_s rfl (s_pure hT rfl rfl rfl rfl rfl rfl (copyCode hT m.funcs[i].code (hs.code _ hin) (hs.args _ hin)) ?_)
    refine go hT 10000 rfl ?_
    conv => whnf
    refine ops_s rfl (s_store (cs' := funcV m.funcs[i]) hT rfl rfl rfl .here rfl ?_)
    refine go hT 10000 rfl ?_
    conv => whnf
    refine ops_g rfl (g_load hT rfl rfl (.there .here) rfl) ?_
    refine go hT 10000 rfl ?_
    conv => whnf
    refine ops_g rfl (g_load hT rfl rfl .here rfl) ?_
    refine go hT 10000 rfl ?_
    conv => whnf
    refine ops_s rfl (s_listF (rows := [funcV m.funcs[i]]) hT rfl rfl rfl rfl rfl rfl rfl rfl ?_)
    refine go hT 10000 rfl ?_
    conv => whnf
    refine ops_s rfl (s_append hT rfl rfl rfl rfl rfl rfl rfl rfl rfl rfl ht (.there (.there (.there .here))) (funcV_len _) (funcV_len [m.funcs[i]]) (funcV_cell [m.funcs[i]]) (by simp only [List.length_cons, List.length_nil, List.length_map, List.length_take]; omega) fun t' ht' => ?_)
    refine go hT 10000 rfl ?_
    conv => whnf
    refine ops_s rfl (s_store (cs' := modV' m (.slice t' ((m.funcs.take i).map funcV ++ [funcV m.funcs[i]]))) hT rfl rfl rfl (.there .here) rfl ?_)
    refine go hT 10000 rfl ?_
    conv => whnf
    refine ops_g rfl (g_add rfl rfl rfl (by dsimp only; omega)) ?_
    refine go hT 10000 rfl ?_
    conv => whnf
    exact ⟨(i + 1, t'), ht', by dsimp only; omega, ⟨⟨_, rfl, .refl _⟩, ⟨_, rfl, .refl _⟩, ⟨_, rfl, .refl _⟩, ⟨_, rfl, .refl _⟩, trivial⟩, by dsimp only; rw [List.take_succ_eq_append_getElem hlt, List.map_append]; exact .drop (.refl _)⟩
  · simp only [decide_eq_false_iff_not, Int.ofNat_lt] at hlt
    have e : m.funcs.take i = m.funcs := List.take_of_length_le (by omega)
    refine run_wkT (fr' := [(2, .ptr b2 0), (3, .ptr b3 0)]) (S' := [.cells b3 (modV m) 27, .cells b2 modZ 27]) ⟨⟨⟨_, rfl, .refl _⟩, ⟨_, rfl, .refl _⟩, trivial⟩, by rw [e]; exact .cells (.cons (.refl _) (.cons (.refl _) (.cons (.refl _) (.cons (.refl _) (.cons (.refl _) (.cons (.refl _) (.cons (.refl _) (.cons (V.Le.slice _ _) (.cons (.refl _) .nil))))))))) (.keep .nil)⟩ ?_
    refine go hT 10000 rfl ?_
    conv => whnf
    refine ops_g rfl (g_load hT rfl rfl .here rfl) ?_
    refine go hT 10000 rfl ?_
    conv => whnf
    refine ops_s rfl (s_store (cs' := modV m) hT rfl rfl rfl (.there .here) rfl ?_)
    refine go hT 10000 rfl ?_
    conv => whnf
    exact ret_of (.cell rfl (.there .here) rfl .nil) rfl
end
end Go.Vw
